/- Drawn tables, the join of two tables as the document tells it, and the law. -/
import Derived.Test.YtpfmjfjfakfbhaaDoorJFour
import Derived.Lib.ValidLaws
import Derived.Test.YtpfmjfjfakfbhaaDoorJNine
import Derived.Test.YtpfmjfjfakfbhaaDoorJSix
import Derived.Test.YtpfmjfjfakfbhaaDoorSxFour
set_option linter.unusedVariables false
set_option linter.unusedSimpArgs false
namespace Go.Sx.Sp
open Go Go.Sx Go.Proofs
attribute [local irreducible] GoodW famL
def GoodText (s : Str) : Prop := s.length ≤ 100 ∧ ∀ b ∈ s, b.toNat < 128
structure GoodCell (c : Cell) : Prop where
  text : GoodText c.text
  null : c.null = true → c.text = []
def GoodTexts (ws : List Str) : Prop := ∀ s ∈ ws, GoodText s
instance (s : Str) : Decidable (GoodText s) := inferInstanceAs (Decidable (_ ∧ _))
instance (ws : List Str) : Decidable (GoodTexts ws) := inferInstanceAs (Decidable (∀ s ∈ ws, _))
theorem itoa_good {n : Int} (h : -3 ≤ n ∧ n ≤ 100) : GoodText (Lib.itoa n) ∧ (Lib.itoa n).length ≤ 10 := by
  have hk : ∀ k : Fin 104, GoodText (Lib.itoa ((k.val : Int) - 3)) ∧ (Lib.itoa ((k.val : Int) - 3)).length ≤ 10 := by decide +kernel
  have := hk ⟨(n + 3).toNat, by omega⟩
  simp only at this
  rwa [show (((n + 3).toNat : Nat) : Int) - 3 = n by omega] at this
def cellWords : List Str := [[97], [98], [99], [49], [50], [51], [49, 48], [120], [45, 49, 46, 53], [50]]
set_option maxHeartbeats 2000000 in
theorem cell_spec (l : List Int) (p : Nat) (hp : p ≤ l.length) : ∃ (c : Cell) (q : Nat), GoodCell c ∧ q ≤ l.length ∧ Spec Tryd.prog 29 [.bp 0 0] [(0, diceB l p)] (.agg c.row) [(0, diceB l q)] := by
  have hp1 := nextP_le hp
  have sp1 := next_spec l p 7 (by omega) hp
  have hw : GoodTexts cellWords := by decide +kernel
  obtain ⟨s, hs, sp2⟩ := word_spec l (nextP l p) cellWords (by decide) (by decide) hp1
  have hp2 := nextP_le hp1
  generalize nextV l p 7 = v at *
  by_cases hv : v = 1
  · refine ⟨⟨true, []⟩, nextP l p, ⟨by decide, fun _ => rfl⟩, hp1, ?_⟩
    refine gEn env Tryd.func29 fun Γ hN hK hML => ?_
    (refine gGo ?_; intros)
    (refine ⟨_, _, _, callG [(0, 0)] [] [] rfl rfl rfl (by kernel_rfl) (sp1) (by repeat' (first | exact trivial | exact Lent.refl _ | exact Lent.norm _ | exact Lent.whole rfl rfl (by first | rfl | exact List.length_append.symm | exact hlenR | simp) rfl (by first | exact .inl rfl | exact .inr rfl) | apply And.intro)) rfl ⟨rfl, rfl, rfl, rfl, rfl, by repeat' (first | exact trivial | rfl | apply And.intro), rfl, rfl⟩, ?_⟩; conv => whnf)
    (refine gGo ?_; intros)
    (refine gM ?_; conv => whnf)
    exact retH rfl (.refl _) rfl rfl rfl ⟨rfl, rfl, trivial⟩
  · refine ⟨⟨false, s⟩, nextP l (nextP l p), ⟨hw s hs, fun h => by cases h⟩, hp2, ?_⟩
    refine gEn env Tryd.func29 fun Γ hN hK hML => ?_
    (refine gGo ?_; intros)
    (refine ⟨_, _, _, callG [(0, 0)] [] [] rfl rfl rfl (by kernel_rfl) (sp1) (by repeat' (first | exact trivial | exact Lent.refl _ | exact Lent.norm _ | exact Lent.whole rfl rfl (by first | rfl | exact List.length_append.symm | exact hlenR | simp) rfl (by first | exact .inl rfl | exact .inr rfl) | apply And.intro)) rfl ⟨rfl, rfl, rfl, rfl, rfl, by repeat' (first | exact trivial | rfl | apply And.intro), rfl, rfl⟩, ?_⟩; conv => whnf)
    (refine gGo ?_; intros)
    (refine ⟨_, _, _, callG [(0, 0)] [] [] rfl rfl rfl (by kernel_rfl) (sp2) (by repeat' (first | exact trivial | exact Lent.refl _ | exact Lent.norm _ | exact Lent.whole rfl rfl (by first | rfl | exact List.length_append.symm | exact hlenR | simp) rfl (by first | exact .inl rfl | exact .inr rfl) | apply And.intro)) rfl ⟨rfl, rfl, rfl, rfl, rfl, by repeat' (first | exact trivial | rfl | apply And.intro), rfl, rfl⟩, ?_⟩; conv => whnf)
    (refine gGo ?_; intros)
    (refine gM ?_; conv => whnf)
    exact retH rfl (.refl _) rfl rfl rfl ⟨rfl, rfl, trivial⟩
def numWords : List Str := [[120], [], [49, 46, 50, 46, 51], [49, 46, 53, 48]]
set_option maxHeartbeats 2000000 in
theorem number_spec (l : List Int) (p : Nat) (hp : p ≤ l.length) : ∃ (c : Cell) (q : Nat), GoodCell c ∧ q ≤ l.length ∧ Spec Tryd.prog 30 [.bp 0 0] [(0, diceB l p)] (.agg c.row) [(0, diceB l q)] := by
  have hp1 := nextP_le hp
  have sp1 := next_spec l p 9 (by omega) hp
  have hw : GoodTexts numWords := by decide +kernel
  obtain ⟨s, hs, sp2⟩ := word_spec l (nextP l p) numWords (by decide) (by decide) hp1
  have sp3 := next_spec l (nextP l p) 12 (by omega) hp1
  have hr3 := nextV_range l (nextP l p) (n := 12) (by omega)
  have hp2 := nextP_le hp1
  generalize nextV l p 9 = v at *
  generalize nextV l (nextP l p) 12 = v3 at *
  obtain ⟨hi1, hi2⟩ := itoa_good (n := v3 - 3) (by omega)
  have sp4 := itoa_spec (v3 - 3) (by omega) (by omega) (by omega)
  by_cases hv : v = 1
  · refine ⟨⟨true, []⟩, nextP l p, ⟨by decide, fun _ => rfl⟩, hp1, ?_⟩
    refine gEn env Tryd.func30 fun Γ hN hK hML => ?_
    (refine gGo ?_; intros)
    (refine ⟨_, _, _, callG [(0, 0)] [] [] rfl rfl rfl (by kernel_rfl) (sp1) (by repeat' (first | exact trivial | exact Lent.refl _ | exact Lent.norm _ | exact Lent.whole rfl rfl (by first | rfl | exact List.length_append.symm | exact hlenR | simp) rfl (by first | exact .inl rfl | exact .inr rfl) | apply And.intro)) rfl ⟨rfl, rfl, rfl, rfl, rfl, by repeat' (first | exact trivial | rfl | apply And.intro), rfl, rfl⟩, ?_⟩; conv => whnf)
    (refine gGo ?_; intros)
    (refine gM ?_; conv => whnf)
    exact retH rfl (.refl _) rfl rfl rfl ⟨rfl, rfl, trivial⟩
  by_cases hv2 : v = 2
  · refine ⟨⟨false, s⟩, nextP l (nextP l p), ⟨hw s hs, fun h => by cases h⟩, hp2, ?_⟩
    refine gEn env Tryd.func30 fun Γ hN hK hML => ?_
    (refine gGo ?_; intros)
    (refine ⟨_, _, _, callG [(0, 0)] [] [] rfl rfl rfl (by kernel_rfl) (sp1) (by repeat' (first | exact trivial | exact Lent.refl _ | exact Lent.norm _ | exact Lent.whole rfl rfl (by first | rfl | exact List.length_append.symm | exact hlenR | simp) rfl (by first | exact .inl rfl | exact .inr rfl) | apply And.intro)) rfl ⟨rfl, rfl, rfl, rfl, rfl, by repeat' (first | exact trivial | rfl | apply And.intro), rfl, rfl⟩, ?_⟩; conv => whnf)
    (refine gGo ?_; intros)
    (refine ⟨_, _, _, callG [(0, 0)] [] [] rfl rfl rfl (by kernel_rfl) (sp2) (by repeat' (first | exact trivial | exact Lent.refl _ | exact Lent.norm _ | exact Lent.whole rfl rfl (by first | rfl | exact List.length_append.symm | exact hlenR | simp) rfl (by first | exact .inl rfl | exact .inr rfl) | apply And.intro)) rfl ⟨rfl, rfl, rfl, rfl, rfl, by repeat' (first | exact trivial | rfl | apply And.intro), rfl, rfl⟩, ?_⟩; conv => whnf)
    (refine gGo ?_; intros)
    (refine gM ?_; conv => whnf)
    exact retH rfl (.refl _) rfl rfl rfl ⟨rfl, rfl, trivial⟩
  · refine ⟨⟨false, Lib.itoa (v3 - 3)⟩, nextP l (nextP l p), ⟨hi1, fun h => by cases h⟩, hp2, ?_⟩
    refine gEn env Tryd.func30 fun Γ hN hK hML => ?_
    (refine gGo ?_; intros)
    (refine ⟨_, _, _, callG [(0, 0)] [] [] rfl rfl rfl (by kernel_rfl) (sp1) (by repeat' (first | exact trivial | exact Lent.refl _ | exact Lent.norm _ | exact Lent.whole rfl rfl (by first | rfl | exact List.length_append.symm | exact hlenR | simp) rfl (by first | exact .inl rfl | exact .inr rfl) | apply And.intro)) rfl ⟨rfl, rfl, rfl, rfl, rfl, by repeat' (first | exact trivial | rfl | apply And.intro), rfl, rfl⟩, ?_⟩; conv => whnf)
    (refine gGo ?_; intros)
    (refine ⟨_, _, _, callG [(0, 0)] [] [] rfl rfl rfl (by kernel_rfl) (sp3) (by repeat' (first | exact trivial | exact Lent.refl _ | exact Lent.norm _ | exact Lent.whole rfl rfl (by first | rfl | exact List.length_append.symm | exact hlenR | simp) rfl (by first | exact .inl rfl | exact .inr rfl) | apply And.intro)) rfl ⟨rfl, rfl, rfl, rfl, rfl, by repeat' (first | exact trivial | rfl | apply And.intro), rfl, rfl⟩, ?_⟩; conv => whnf)
    (refine gGo ?_; intros)
    (refine gPC (sp4) ?_; conv => whnf)
    (refine gGo ?_; intros)
    (refine gM ?_; conv => whnf)
    exact retH rfl (.refl _) rfl rfl rfl ⟨rfl, rfl, trivial⟩
end Go.Sx.Sp
namespace Go.Sx.Sp
open Go Go.Sx Go.Proofs
attribute [local irreducible] GoodW famL
noncomputable def cellK (l : List Int) (p : Nat) : Cell × Nat := if h : p ≤ l.length then (Classical.choose (cell_spec l p h), Classical.choose (Classical.choose_spec (cell_spec l p h))) else (⟨true, []⟩, p)
theorem cellK_spec {l : List Int} {p : Nat} (h : p ≤ l.length) : GoodCell (cellK l p).1 ∧ (cellK l p).2 ≤ l.length ∧ Spec Tryd.prog 29 [.bp 0 0] [(0, diceB l p)] (.agg (cellK l p).1.row) [(0, diceB l (cellK l p).2)] := by
  have := Classical.choose_spec (Classical.choose_spec (cell_spec l p h))
  simp only [cellK, dif_pos h]
  exact this
noncomputable def numF (l : List Int) (p : Nat) : Cell × Nat := if h : p ≤ l.length then (Classical.choose (number_spec l p h), Classical.choose (Classical.choose_spec (number_spec l p h))) else (⟨true, []⟩, p)
theorem numF_spec {l : List Int} {p : Nat} (h : p ≤ l.length) : GoodCell (numF l p).1 ∧ (numF l p).2 ≤ l.length ∧ Spec Tryd.prog 30 [.bp 0 0] [(0, diceB l p)] (.agg (numF l p).1.row) [(0, diceB l (numF l p).2)] := by
  have := Classical.choose_spec (Classical.choose_spec (number_spec l p h))
  simp only [numF, dif_pos h]
  exact this
theorem seqK_ok {α : Type} {step : Nat → Nat → α × Nat} {L : Nat} {Q : α → Prop} {B : Nat} (h : ∀ i p, i < B → p ≤ L → Q (step i p).1 ∧ (step i p).2 ≤ L) : ∀ n i p, n + i ≤ B → p ≤ L → (∀ x ∈ (seqF step n i p).1, Q x) ∧ (seqF step n i p).2 ≤ L
  | 0, _, p, _, hp => ⟨fun x hx => (by cases hx), hp⟩
  | n + 1, i, p, hB, hp => by
    obtain ⟨h1, h2⟩ := h i p (by omega) hp
    obtain ⟨h3, h4⟩ := seqK_ok h n (i + 1) _ (by omega) h2
    refine ⟨fun x hx => ?_, h4⟩
    simp only [seqF, List.mem_cons] at hx
    rcases hx with rfl | hx
    · exact h1
    · exact h3 x hx
def colNames : List Str := [[105, 100], [110, 97, 109, 101], [85, 110, 105, 116, 32, 80, 114, 105, 99, 101], [99, 105, 116, 121], [117, 110, 105, 116], [112, 114, 105, 99, 101], [105, 100, 50], []]
def abcd : List Str := [[97], [98], [99], [100]]
noncomputable def colStep (l : List Int) (kind : Int) (i p : Nat) : Cell × Nat :=
  if kind = 0 then numF l (cellK l p).2
  else if kind = 1 then (⟨false, 107 :: Lib.itoa i⟩, (cellK l p).2)
  else if kind = 2 then (⟨false, wordF abcd l (cellK l p).2⟩, nextP l (cellK l p).2)
  else cellK l p
theorem colStep_ok {l : List Int} {kind : Int} {i p : Nat} (hi : i < 100) (hp : p ≤ l.length) : GoodCell (colStep l kind i p).1 ∧ (colStep l kind i p).2 ≤ l.length := by
  obtain ⟨h1, h2, _⟩ := cellK_spec hp
  unfold colStep
  split
  · obtain ⟨h3, h4, _⟩ := numF_spec h2; exact ⟨h3, h4⟩
  · split
    · obtain ⟨⟨h3, h5⟩, h4⟩ := itoa_good (n := (i : Int)) (by omega)
      refine ⟨⟨⟨by simp only [List.length_cons]; omega, fun b hb => ?_⟩, fun h => by cases h⟩, h2⟩
      rcases List.mem_cons.1 hb with rfl | hb
      · decide
      · exact h5 b hb
    · split
      · have hw : GoodTexts abcd := by decide +kernel
        obtain ⟨h3, _⟩ := wordF_spec (ws := abcd) (by decide) (by decide) h2
        exact ⟨⟨hw _ h3, fun h => by cases h⟩, nextP_le h2⟩
      · exact ⟨h1, h2⟩
noncomputable def colK (l : List Int) (n p : Nat) : Column × Nat :=
  (⟨wordF colNames l p, (seqF (colStep l (nextV l (nextP l p) 5)) n 0 (nextP l (nextP l p))).1⟩, (seqF (colStep l (nextV l (nextP l p) 5)) n 0 (nextP l (nextP l p))).2)
set_option maxHeartbeats 8000000 in
theorem kcolumn_spec (l : List Int) (n p : Nat) (hn : n ≤ 50) (hp : p ≤ l.length) : Spec Tryd.prog 18 [.bp 0 0, .int .i64 n] [(0, diceB l p)] (.agg (colK l n p).1.row) [(0, diceB l (colK l n p).2)] := by
  have hp1 := nextP_le hp
  have hp2 := nextP_le hp1
  obtain ⟨_, sp1⟩ := wordF_spec (ws := colNames) (by decide) (by decide) hp
  have sp2 := next_spec l (nextP l p) 5 (by omega) hp1
  have hdef : colK l n p = (⟨wordF colNames l p, (seqF (colStep l (nextV l (nextP l p) 5)) n 0 (nextP l (nextP l p))).1⟩, (seqF (colStep l (nextV l (nextP l p) 5)) n 0 (nextP l (nextP l p))).2) := rfl
  rw [hdef]
  generalize hs : seqF (colStep l (nextV l (nextP l p) 5)) n 0 (nextP l (nextP l p)) = res
  generalize nextV l (nextP l p) 5 = kind at *
  generalize nextP l (nextP l p) = p2 at *
  generalize nextP l p = p1 at *
  generalize wordF colNames l p = name at *
  clear hdef
  refine gEn env Tryd.func18 fun Γ hN hK hML => ?_
  (refine gGo ?_; intros)
  (refine ⟨_, _, _, callG [(0, 0)] [] [] rfl rfl rfl (by kernel_rfl) (sp1) (by repeat' (first | exact trivial | exact Lent.refl _ | exact Lent.norm _ | exact Lent.whole rfl rfl (by first | rfl | exact List.length_append.symm | exact hlenR | simp) rfl (by first | exact .inl rfl | exact .inr rfl) | apply And.intro)) rfl ⟨rfl, rfl, rfl, rfl, rfl, by repeat' (first | exact trivial | rfl | apply And.intro), rfl, rfl⟩, ?_⟩; conv => whnf)
  (refine gGo ?_; intros)
  (refine ⟨_, _, _, callG [(0, 0)] [] [] rfl rfl rfl (by kernel_rfl) (sp2) (by repeat' (first | exact trivial | exact Lent.refl _ | exact Lent.norm _ | exact Lent.whole rfl rfl (by first | rfl | exact List.length_append.symm | exact hlenR | simp) rfl (by first | exact .inl rfl | exact .inr rfl) | apply And.intro)) rfl ⟨rfl, rfl, rfl, rfl, rfl, by repeat' (first | exact trivial | rfl | apply And.intro), rfl, rfl⟩, ?_⟩; conv => whnf)
  (refine gGo ?_; intros)
  refine W.ownCell 5 0 1 60 2 rfl rfl rfl rfl rfl ?_
  refine W.loopG (fun m st => ∃ (j q : Nat) (out : List Cell), j ≤ n ∧ q ≤ l.length ∧ out.length = j ∧ res = (out ++ (seqF (colStep l kind) (n - j) j q).1, (seqF (colStep l kind) (n - j) j q).2) ∧ m = n - j ∧ st = ⟨[(0, .bp 0 0), (4, .bp 4 0), (5, .bp 5 0), (6, .int .i64 kind), (15, .int .i64 n), (16, .int .i64 j)], [(0, [diceB l q]), (4, [.rows 2 [[.str [], .nils]] none]), (5, [.rows 2 [[.str name, .osl 60 0 0 (cellRows out).length (cellRows out).length]] none]), (60, [.rows 2 (cellRows out) (some [])])], [0, 4, 5, 60]⟩)
    n _ ⟨0, p2, [], by omega, hp2, rfl, by rw [← hs]; rfl, by omega, rfl⟩ ⟨[(0, 0), (4, 4), (5, 5), (60, 60)], [], [], .mq (.ci 0 (.ci 4 (.ci 5 (.ci 60 .nil))))⟩ ?_
  rintro m st ⟨j, q, out, hj, hq, ho, he, rfl, rfl⟩
  have hol := cellRows_len out
  (refine gGo ?_; intros)
  refine boolRes_split (fun hb => ?_) (fun hb => ?_) <;> conv => whnf
  · have hlt : j < n := by omega
    obtain ⟨hc1, hc2, hc3⟩ := cellK_spec hq
    have hstep := colStep_ok (l := l) (kind := kind) (i := j) (by omega) hq
    rw [show n - j = (n - (j + 1)) + 1 by omega] at he
    simp only [seqF] at he
    (refine gGo ?_; intros)
    (refine ⟨_, _, _, callG [(0, 0)] [] [] rfl rfl rfl (by kernel_rfl) (hc3) (by repeat' (first | exact trivial | exact Lent.refl _ | exact Lent.norm _ | exact Lent.whole rfl rfl (by first | rfl | exact List.length_append.symm | exact hlenR | simp) rfl (by first | exact .inl rfl | exact .inr rfl) | apply And.intro)) rfl ⟨rfl, rfl, rfl, rfl, rfl, by repeat' (first | exact trivial | rfl | apply And.intro), rfl, rfl⟩, ?_⟩; conv => whnf)
    (refine gGo ?_; intros)
    refine boolRes_split (fun hb => ?_) (fun hb => ?_) <;> conv => whnf
    · have hk : colStep l kind j q = numF l (cellK l q).2 := by simp [colStep, hb]
      obtain ⟨hn1, hn2, hn3⟩ := numF_spec hc2
      rw [hk] at he hstep
      (refine gGo ?_; intros)
      (refine ⟨_, _, _, callG [(0, 0)] [] [] rfl rfl rfl (by kernel_rfl) (hn3) (by repeat' (first | exact trivial | exact Lent.refl _ | exact Lent.norm _ | exact Lent.whole rfl rfl (by first | rfl | exact List.length_append.symm | exact hlenR | simp) rfl (by first | exact .inl rfl | exact .inr rfl) | apply And.intro)) rfl ⟨rfl, rfl, rfl, rfl, rfl, by repeat' (first | exact trivial | rfl | apply And.intro), rfl, rfl⟩, ?_⟩; conv => whnf)
      (refine gGo ?_; intros)
      refine ⟨⟨rowsSz_cons rfl rowsSz_nil, rfl⟩, fitsN (n := (cellRows out).length + 1) (b := 24) (by omega) (by omega), .inl ⟨rfl, rfl, ?_⟩⟩
      conv => whnf
      (refine gGo ?_; intros)
      refine ⟨_, _, ?_, ⟨j + 1, _, out ++ [_], by omega, hstep.2, by simp; omega, (by rw [he, List.append_cons]), rfl, rfl⟩, [(0, 0), (4, 4), (5, 5), (60, 60)], [], [], LeG.mq (.ci 0 (.ci 4 (.cons 5 rfl rfl (.refl _) ?_ (.cons 60 rfl rfl (.refl _) ?_ .nil))))⟩
      · omega
      · rw [cellRows_snoc, List.length_append]; rfl
      · rw [cellRows_snoc]; rfl
    (refine gGo ?_; intros)
    refine boolRes_split (fun hb => ?_) (fun hb => ?_) <;> conv => whnf
    · have hk : colStep l kind j q = (⟨false, 107 :: Lib.itoa j⟩, (cellK l q).2) := by simp [colStep, hb]
      obtain ⟨hi1, hi2⟩ := itoa_good (n := (j : Int)) (by omega)
      have sp4 := itoa_spec (j : Int) (by omega) (by omega) (by omega)
      rw [hk] at he hstep
      (refine gGo ?_; intros)
      (refine gPC (sp4) ?_; conv => whnf)
      (refine gGo ?_; intros)
      refine And.intro (by show [107].length + (Lib.itoa j).length ≤ _; simp only [List.length_singleton]; omega) ?_
      conv => whnf
      (refine gGo ?_; intros)
      refine ⟨⟨rowsSz_cons rfl rowsSz_nil, rfl⟩, fitsN (n := (cellRows out).length + 1) (b := 24) (by omega) (by omega), .inl ⟨rfl, rfl, ?_⟩⟩
      conv => whnf
      (refine gGo ?_; intros)
      refine ⟨_, _, ?_, ⟨j + 1, _, out ++ [_], by omega, hstep.2, by simp; omega, (by rw [he, List.append_cons]), rfl, rfl⟩, [(0, 0), (4, 4), (5, 5), (60, 60)], [], [], LeG.mq (.ci 0 (.ci 4 (.cons 5 rfl rfl (.refl _) ?_ (.cons 60 rfl rfl (.refl _) ?_ .nil))))⟩
      · omega
      · rw [cellRows_snoc, List.length_append]; rfl
      · rw [cellRows_snoc]; rfl
    (refine gGo ?_; intros)
    refine boolRes_split (fun hb => ?_) (fun hb => ?_) <;> conv => whnf
    · have hk : colStep l kind j q = (⟨false, wordF abcd l (cellK l q).2⟩, nextP l (cellK l q).2) := by simp [colStep, hb]
      obtain ⟨_, sp5⟩ := wordF_spec (ws := abcd) (by decide) (by decide) hc2
      rw [hk] at he hstep
      (refine gGo ?_; intros)
      (refine ⟨_, _, _, callG [(0, 0)] [] [] rfl rfl rfl (by kernel_rfl) (sp5) (by repeat' (first | exact trivial | exact Lent.refl _ | exact Lent.norm _ | exact Lent.whole rfl rfl (by first | rfl | exact List.length_append.symm | exact hlenR | simp) rfl (by first | exact .inl rfl | exact .inr rfl) | apply And.intro)) rfl ⟨rfl, rfl, rfl, rfl, rfl, by repeat' (first | exact trivial | rfl | apply And.intro), rfl, rfl⟩, ?_⟩; conv => whnf)
      (refine gGo ?_; intros)
      refine ⟨⟨rowsSz_cons rfl rowsSz_nil, rfl⟩, fitsN (n := (cellRows out).length + 1) (b := 24) (by omega) (by omega), .inl ⟨rfl, rfl, ?_⟩⟩
      conv => whnf
      (refine gGo ?_; intros)
      refine ⟨_, _, ?_, ⟨j + 1, _, out ++ [_], by omega, hstep.2, by simp; omega, (by rw [he, List.append_cons]), rfl, rfl⟩, [(0, 0), (4, 4), (5, 5), (60, 60)], [], [], LeG.mq (.ci 0 (.ci 4 (.cons 5 rfl rfl (.refl _) ?_ (.cons 60 rfl rfl (.refl _) ?_ .nil))))⟩
      · omega
      · rw [cellRows_snoc, List.length_append]; rfl
      · rw [cellRows_snoc]; rfl
    · have hk : colStep l kind j q = cellK l q := by
        unfold colStep
        rw [if_neg (by assumption), if_neg (by assumption), if_neg hb]
      rw [hk] at he hstep
      (refine gGo ?_; intros)
      refine ⟨⟨rowsSz_cons rfl rowsSz_nil, rfl⟩, fitsN (n := (cellRows out).length + 1) (b := 24) (by omega) (by omega), .inl ⟨rfl, rfl, ?_⟩⟩
      conv => whnf
      (refine gGo ?_; intros)
      refine ⟨_, _, ?_, ⟨j + 1, _, out ++ [_], by omega, hstep.2, by simp; omega, (by rw [he, List.append_cons]), rfl, rfl⟩, [(0, 0), (4, 4), (5, 5), (60, 60)], [], [], LeG.mq (.ci 0 (.ci 4 (.cons 5 rfl rfl (.refl _) ?_ (.cons 60 rfl rfl (.refl _) ?_ .nil))))⟩
      · omega
      · rw [cellRows_snoc, List.length_append]; rfl
      · rw [cellRows_snoc]; rfl
  · have hje : j = n := by omega
    rw [hje, Nat.sub_self] at he
    simp only [seqF, List.append_nil] at he
    rw [he]
    (refine gGo ?_; intros)
    refine W.leG (mp := [(0, 0), (4, 4)]) (bo := [60]) (st' := ⟨[(4, .bp 4 0)], [(0, [diceB l q]), (4, [.rows 2 [Column.row ⟨name, out⟩] none])], [0, 4]⟩)
      (LeG.mq (.ci 0 (.cons 4 (b1 := .rows 2 [Column.row ⟨name, out⟩] none) rfl rfl (.rows _ _ _ (by repeat' (first | exact trivial | exact ⟨Lent.refl _, rfl⟩ | exact ⟨Lent.norm _, rfl⟩ | exact ⟨Lent.whole rfl rfl (by first | rfl | exact List.length_append.symm | exact hlenR | simp) rfl (by first | exact .inl rfl | exact .inr rfl), rfl⟩ | apply And.intro))) rfl .nil))) ?_
    (refine gM ?_; conv => whnf)
    exact retH rfl (.refl _) rfl rfl rfl ⟨rfl, rfl, trivial⟩
end Go.Sx.Sp
namespace Go.Sx.Sp
open Go Go.Sx Go.Proofs
attribute [local irreducible] GoodW famL
structure GoodCol (n : Nat) (c : Column) : Prop where
  name : GoodText c.name
  len : c.cells.length = n
  cells : ∀ x ∈ c.cells, GoodCell x
structure GoodTab (t : Table) : Prop where
  name : GoodText t.name
  few : t.cols.length ≤ 3
  cols : ∃ n, n ≤ 6 ∧ ∀ c ∈ t.cols, GoodCol n c
theorem colK_ok {l : List Int} {n p : Nat} (hn : n ≤ 50) (hp : p ≤ l.length) : GoodCol n (colK l n p).1 ∧ (colK l n p).2 ≤ l.length := by
  have hp1 := nextP_le hp
  have hp2 := nextP_le hp1
  have hw : GoodTexts colNames := by decide +kernel
  obtain ⟨h1, _⟩ := wordF_spec (ws := colNames) (by decide) (by decide) hp
  obtain ⟨h2, h3⟩ := seqK_ok (step := colStep l (nextV l (nextP l p) 5)) (Q := GoodCell) (B := 100) (fun i p hi hp => colStep_ok hi hp) n 0 _ (by omega) hp2
  exact ⟨⟨hw _ h1, seqF_len _ _ _ _, h2⟩, h3⟩
def tblNames : List Str := [[116], [111, 114, 100, 101, 114, 115], []]
noncomputable def tblC (l : List Int) (p : Nat) : List Column × Nat :=
  seqF (fun _ q => colK l (nextV l (nextP l p) 7).toNat q) (1 + (nextV l (nextP l (nextP l p)) 3).toNat) 0 (nextP l (nextP l (nextP l p)))
noncomputable def tblF (l : List Int) (id : Int) (p : Nat) : Table × Nat :=
  (⟨id, wordF tblNames l p, if nextV l (tblC l p).2 15 = 1 then [] else (tblC l p).1⟩, nextP l (tblC l p).2)
theorem tblC_ok {l : List Int} {p : Nat} (hp : p ≤ l.length) : ((tblC l p).1.length ≤ 3 ∧ ∀ c ∈ (tblC l p).1, GoodCol (nextV l (nextP l p) 7).toNat c) ∧ (tblC l p).2 ≤ l.length := by
  have hp1 := nextP_le hp
  have hp2 := nextP_le hp1
  have hp3 := nextP_le hp2
  have hr := nextV_range l (nextP l p) (n := 7) (by omega)
  have hr2 := nextV_range l (nextP l (nextP l p)) (n := 3) (by omega)
  obtain ⟨h2, h3⟩ := seqK_ok (step := fun _ q => colK l (nextV l (nextP l p) 7).toNat q) (Q := GoodCol (nextV l (nextP l p) 7).toNat) (B := 100) (fun i q hi hq => colK_ok (by omega) hq) (1 + (nextV l (nextP l (nextP l p)) 3).toNat) 0 _ (by omega) hp3
  exact ⟨⟨by unfold tblC; rw [seqF_len]; omega, h2⟩, h3⟩
theorem tblF_ok {l : List Int} {id : Int} {p : Nat} (hp : p ≤ l.length) : GoodTab (tblF l id p).1 ∧ (tblF l id p).1.id = id ∧ (tblF l id p).2 ≤ l.length := by
  have hw : GoodTexts tblNames := by decide +kernel
  obtain ⟨h1, _⟩ := wordF_spec (ws := tblNames) (by decide) (by decide) hp
  obtain ⟨⟨h2, h3⟩, h4⟩ := tblC_ok hp
  have hr := nextV_range l (nextP l p) (n := 7) (by omega)
  refine ⟨⟨hw _ h1, ?_, (nextV l (nextP l p) 7).toNat, by omega, ?_⟩, rfl, nextP_le h4⟩
  · simp only [tblF]; split
    · simp
    · exact h2
  · simp only [tblF]; split
    · simp
    · exact h3
set_option maxHeartbeats 8000000 in
theorem table_spec (l : List Int) (id : Int) (p : Nat) (hp : p ≤ l.length) : Spec Tryd.prog 7 [.bp 0 0, .int .i64 id] [(0, diceB l p)] (.agg (tblF l id p).1.row) [(0, diceB l (tblF l id p).2)] := by
  have hp1 := nextP_le hp
  have hp2 := nextP_le hp1
  have hp3 := nextP_le hp2
  obtain ⟨_, hp4⟩ := tblC_ok hp
  obtain ⟨_, sp1⟩ := wordF_spec (ws := tblNames) (by decide) (by decide) hp
  have sp2 := next_spec l (nextP l p) 7 (by omega) hp1
  have sp3 := next_spec l (nextP l (nextP l p)) 3 (by omega) hp2
  have sp4 := next_spec l (tblC l p).2 15 (by omega) hp4
  have hr := nextV_range l (nextP l p) (n := 7) (by omega)
  have hr2 := nextV_range l (nextP l (nextP l p)) (n := 3) (by omega)
  have hdef : tblF l id p = (⟨id, wordF tblNames l p, if nextV l (tblC l p).2 15 = 1 then [] else (tblC l p).1⟩, nextP l (tblC l p).2) := rfl
  have hC : tblC l p = seqF (fun _ q => colK l (nextV l (nextP l p) 7).toNat q) (1 + (nextV l (nextP l (nextP l p)) 3).toNat) 0 (nextP l (nextP l (nextP l p))) := rfl
  obtain ⟨n, hn⟩ := Int.eq_ofNat_of_zero_le hr.1
  obtain ⟨k3, hk3⟩ := Int.eq_ofNat_of_zero_le hr2.1
  rw [hdef]
  rw [hn] at sp2 hr hC
  rw [hk3] at sp3 hr2 hC
  rw [Int.toNat_natCast, Int.toNat_natCast] at hC
  generalize tblC l p = res at *
  generalize nextV l res.2 15 = v15 at *
  generalize nextP l (nextP l (nextP l p)) = p3 at *
  generalize nextP l (nextP l p) = p2 at *
  generalize nextP l p = p1 at *
  generalize wordF tblNames l p = name at *
  clear hdef
  refine gEn env Tryd.func7 fun Γ hN hK hML => ?_
  (refine gGo ?_; intros)
  (refine ⟨_, _, _, callG [(0, 0)] [] [] rfl rfl rfl (by kernel_rfl) (sp1) (by repeat' (first | exact trivial | exact Lent.refl _ | exact Lent.norm _ | exact Lent.whole rfl rfl (by first | rfl | exact List.length_append.symm | exact hlenR | simp) rfl (by first | exact .inl rfl | exact .inr rfl) | apply And.intro)) rfl ⟨rfl, rfl, rfl, rfl, rfl, by repeat' (first | exact trivial | rfl | apply And.intro), rfl, rfl⟩, ?_⟩; conv => whnf)
  (refine gGo ?_; intros)
  (refine ⟨_, _, _, callG [(0, 0)] [] [] rfl rfl rfl (by kernel_rfl) (sp2) (by repeat' (first | exact trivial | exact Lent.refl _ | exact Lent.norm _ | exact Lent.whole rfl rfl (by first | rfl | exact List.length_append.symm | exact hlenR | simp) rfl (by first | exact .inl rfl | exact .inr rfl) | apply And.intro)) rfl ⟨rfl, rfl, rfl, rfl, rfl, by repeat' (first | exact trivial | rfl | apply And.intro), rfl, rfl⟩, ?_⟩; conv => whnf)
  (refine gGo ?_; intros)
  (refine ⟨_, _, _, callG [(0, 0)] [] [] rfl rfl rfl (by kernel_rfl) (sp3) (by repeat' (first | exact trivial | exact Lent.refl _ | exact Lent.norm _ | exact Lent.whole rfl rfl (by first | rfl | exact List.length_append.symm | exact hlenR | simp) rfl (by first | exact .inl rfl | exact .inr rfl) | apply And.intro)) rfl ⟨rfl, rfl, rfl, rfl, rfl, by repeat' (first | exact trivial | rfl | apply And.intro), rfl, rfl⟩, ?_⟩; conv => whnf)
  (refine gGo ?_; intros)
  refine W.ownCell 5 0 2 60 2 rfl rfl rfl rfl rfl ?_
  refine W.loopG (fun m st => ∃ (j i q : Nat) (out : List Column), j ≤ 3 ∧ q ≤ l.length ∧ out.length + j ≤ 3 ∧ res = (out ++ (seqF (fun _ q => colK l n q) j i q).1, (seqF (fun _ q => colK l n q) j i q).2) ∧ m = j ∧ st = ⟨[(0, .bp 0 0), (4, .bp 4 0), (5, .bp 5 0), (6, .int .i64 n), (7, .int .i64 j)], [(0, [diceB l q]), (4, [.rows 3 [[.int .i64 0, .str [], .nils]] none]), (5, [.rows 3 [[.int .i64 id, .str name, .osl 60 0 0 (colRows out).length (colRows out).length]] none]), (60, [.rows 2 (colRows out) (some [])])], [0, 4, 5, 60]⟩)
    (1 + k3) _ ⟨1 + k3, 0, p3, [], by omega, hp3, by simp; omega, by rw [hC]; rfl, rfl, rfl⟩ ?_ ?_
  · exact ⟨[(0, 0), (4, 4), (5, 5), (60, 60)], [], [], LeG.mk' rfl rfl rfl (by repeat' (first | exact trivial | exact ⟨_, .refl _, rfl⟩ | exact ⟨_, .refl _, by show V.int .i64 (1 + (k3 : Int)) = V.int .i64 ((1 + k3 : Nat) : Int); congr 1⟩ | apply And.intro)) (.ci 0 (.ci 4 (.ci 5 (.ci 60 .nil)))) rfl rfl (by rw [hK]; rfl)⟩
  rintro m st ⟨j, i, q, out, hj, hq, ho, he, rfl, rfl⟩
  have hol := colRows_len out
  rcases m with _ | j
  · have h0 : ((0 : Nat) : Int) = 0 := rfl
    simp only [seqF, List.append_nil] at he
    have hq2 : res.2 = q := by rw [he]
    have ho2 : res.1 = out := by rw [he]
    rw [hq2] at sp4
    rw [hq2, ho2]
    clear he
    (refine gGo ?_; intros)
    (refine ⟨_, _, _, callG [(0, 0)] [] [] rfl rfl rfl (by kernel_rfl) (sp4) (by repeat' (first | exact trivial | exact Lent.refl _ | exact Lent.norm _ | exact Lent.whole rfl rfl (by first | rfl | exact List.length_append.symm | exact hlenR | simp) rfl (by first | exact .inl rfl | exact .inr rfl) | apply And.intro)) rfl ⟨rfl, rfl, rfl, rfl, rfl, by repeat' (first | exact trivial | rfl | apply And.intro), rfl, rfl⟩, ?_⟩; conv => whnf)
    (refine gGo ?_; intros)
    refine boolRes_split (fun hb => ?_) (fun hb => ?_) <;> conv => whnf
    · rw [if_pos hb]
      (refine gGo ?_; intros)
      (refine gM ?_; conv => whnf)
      exact retH rfl (.norm _) rfl rfl rfl ⟨rfl, rfl, trivial⟩
    · rw [if_neg hb]
      (refine gGo ?_; intros)
      refine W.leG (mp := [(0, 0), (4, 4)]) (bo := [60]) (st' := ⟨[(4, .bp 4 0)], [(0, [diceB l (nextP l q)]), (4, [.rows 3 [Table.row ⟨id, name, out⟩] none])], [0, 4]⟩)
        (LeG.mq (.ci 0 (.cons 4 (b1 := .rows 3 [Table.row ⟨id, name, out⟩] none) rfl rfl (.rows _ _ _ (by repeat' (first | exact trivial | exact ⟨Lent.refl _, rfl⟩ | exact ⟨Lent.norm _, rfl⟩ | exact ⟨Lent.whole rfl rfl (by first | rfl | exact List.length_append.symm | exact hlenR | simp) rfl (by first | exact .inl rfl | exact .inr rfl), rfl⟩ | apply And.intro))) rfl .nil))) ?_
      (refine gM ?_; conv => whnf)
      exact retH rfl (.refl _) rfl rfl rfl ⟨rfl, rfl, trivial⟩
  · have sp5 := kcolumn_spec l n q (by omega) hq
    obtain ⟨_, hq2⟩ := colK_ok (n := n) (by omega) hq
    simp only [seqF] at he
    (refine gGo ?_; intros)
    (refine ⟨_, _, _, callG [(0, 0)] [] [] rfl rfl rfl (by kernel_rfl) (sp5) (by repeat' (first | exact trivial | exact Lent.refl _ | exact Lent.norm _ | exact Lent.whole rfl rfl (by first | rfl | exact List.length_append.symm | exact hlenR | simp) rfl (by first | exact .inl rfl | exact .inr rfl) | apply And.intro)) rfl ⟨rfl, rfl, rfl, rfl, rfl, by repeat' (first | exact trivial | rfl | apply And.intro), rfl, rfl⟩, ?_⟩; conv => whnf)
    (refine gGo ?_; intros)
    refine ⟨⟨rowsSz_cons rfl rowsSz_nil, rfl⟩, fitsN (n := (colRows out).length + 1) (b := 40) (by omega) (by omega), .inl ⟨rfl, rfl, ?_⟩⟩
    conv => whnf
    (refine gGo ?_; intros)
    refine ⟨_, _, ?_, ⟨j, i + 1, _, out ++ [_], by omega, hq2, by simp; omega, (by rw [he, List.append_cons]), rfl, rfl⟩, [(0, 0), (4, 4), (5, 5), (60, 60)], [], [], LeG.mk' rfl rfl rfl ⟨⟨_, .refl _, rfl⟩, ⟨_, .refl _, rfl⟩, ⟨_, .refl _, rfl⟩, ⟨_, .refl _, rfl⟩, ⟨_, .refl _, (by show V.int .i64 (((j + 1 : Nat) : Int) - 1) = _; congr 1; omega)⟩, trivial⟩ (.ci 0 (.ci 4 (.cons 5 rfl rfl (.refl _) ?_ (.cons 60 rfl rfl (.refl _) ?_ .nil)))) rfl rfl (by rw [hK]; rfl)⟩
    · omega
    · rw [colRows_snoc, List.length_append]; rfl
    · rw [colRows_snoc]; rfl
end Go.Sx.Sp
namespace Go.Sx.Sp
open Go Go.Sx Go.Proofs
attribute [local irreducible] GoodW famL
set_option maxHeartbeats 8000000 in
theorem tableO_spec (l : List Int) (id : Int) (p : Nat) (hp : p ≤ l.length) : Spec Tryd.prog 7 [.bp 0 0, .int .i64 id] [(0, diceB l p)] (.agg [.int .i64 id, .str (tblF l id p).1.name, .osl 93 0 0 (colRows (tblF l id p).1.cols).length (colRows (tblF l id p).1.cols).length]) [(0, diceB l (tblF l id p).2), (93, .rows 2 (colRows (tblF l id p).1.cols) (some []))] := by
  have hp1 := nextP_le hp
  have hp2 := nextP_le hp1
  have hp3 := nextP_le hp2
  obtain ⟨_, hp4⟩ := tblC_ok hp
  obtain ⟨_, sp1⟩ := wordF_spec (ws := tblNames) (by decide) (by decide) hp
  have sp2 := next_spec l (nextP l p) 7 (by omega) hp1
  have sp3 := next_spec l (nextP l (nextP l p)) 3 (by omega) hp2
  have sp4 := next_spec l (tblC l p).2 15 (by omega) hp4
  have hr := nextV_range l (nextP l p) (n := 7) (by omega)
  have hr2 := nextV_range l (nextP l (nextP l p)) (n := 3) (by omega)
  have hdef : tblF l id p = (⟨id, wordF tblNames l p, if nextV l (tblC l p).2 15 = 1 then [] else (tblC l p).1⟩, nextP l (tblC l p).2) := rfl
  have hC : tblC l p = seqF (fun _ q => colK l (nextV l (nextP l p) 7).toNat q) (1 + (nextV l (nextP l (nextP l p)) 3).toNat) 0 (nextP l (nextP l (nextP l p))) := rfl
  obtain ⟨n, hn⟩ := Int.eq_ofNat_of_zero_le hr.1
  obtain ⟨k3, hk3⟩ := Int.eq_ofNat_of_zero_le hr2.1
  rw [hdef]
  rw [hn] at sp2 hr hC
  rw [hk3] at sp3 hr2 hC
  rw [Int.toNat_natCast, Int.toNat_natCast] at hC
  generalize tblC l p = res at *
  generalize nextV l res.2 15 = v15 at *
  generalize nextP l (nextP l (nextP l p)) = p3 at *
  generalize nextP l (nextP l p) = p2 at *
  generalize nextP l p = p1 at *
  generalize wordF tblNames l p = name at *
  clear hdef
  refine gEn env Tryd.func7 fun Γ hN hK hML => ?_
  (refine gGo ?_; intros)
  (refine ⟨_, _, _, callG [(0, 0)] [] [] rfl rfl rfl (by kernel_rfl) (sp1) (by repeat' (first | exact trivial | exact Lent.refl _ | exact Lent.norm _ | exact Lent.whole rfl rfl (by first | rfl | exact List.length_append.symm | exact hlenR | simp) rfl (by first | exact .inl rfl | exact .inr rfl) | apply And.intro)) rfl ⟨rfl, rfl, rfl, rfl, rfl, by repeat' (first | exact trivial | rfl | apply And.intro), rfl, rfl⟩, ?_⟩; conv => whnf)
  (refine gGo ?_; intros)
  (refine ⟨_, _, _, callG [(0, 0)] [] [] rfl rfl rfl (by kernel_rfl) (sp2) (by repeat' (first | exact trivial | exact Lent.refl _ | exact Lent.norm _ | exact Lent.whole rfl rfl (by first | rfl | exact List.length_append.symm | exact hlenR | simp) rfl (by first | exact .inl rfl | exact .inr rfl) | apply And.intro)) rfl ⟨rfl, rfl, rfl, rfl, rfl, by repeat' (first | exact trivial | rfl | apply And.intro), rfl, rfl⟩, ?_⟩; conv => whnf)
  (refine gGo ?_; intros)
  (refine ⟨_, _, _, callG [(0, 0)] [] [] rfl rfl rfl (by kernel_rfl) (sp3) (by repeat' (first | exact trivial | exact Lent.refl _ | exact Lent.norm _ | exact Lent.whole rfl rfl (by first | rfl | exact List.length_append.symm | exact hlenR | simp) rfl (by first | exact .inl rfl | exact .inr rfl) | apply And.intro)) rfl ⟨rfl, rfl, rfl, rfl, rfl, by repeat' (first | exact trivial | rfl | apply And.intro), rfl, rfl⟩, ?_⟩; conv => whnf)
  (refine gGo ?_; intros)
  refine W.ownCell 5 0 2 93 2 rfl rfl rfl rfl rfl ?_
  refine W.loopG (fun m st => ∃ (j i q : Nat) (out : List Column), j ≤ 3 ∧ q ≤ l.length ∧ out.length + j ≤ 3 ∧ res = (out ++ (seqF (fun _ q => colK l n q) j i q).1, (seqF (fun _ q => colK l n q) j i q).2) ∧ m = j ∧ st = ⟨[(0, .bp 0 0), (4, .bp 4 0), (5, .bp 5 0), (6, .int .i64 n), (7, .int .i64 j)], [(0, [diceB l q]), (4, [.rows 3 [[.int .i64 0, .str [], .nils]] none]), (5, [.rows 3 [[.int .i64 id, .str name, .osl 93 0 0 (colRows out).length (colRows out).length]] none]), (93, [.rows 2 (colRows out) (some [])])], [0, 4, 5, 93]⟩)
    (1 + k3) _ ⟨1 + k3, 0, p3, [], by omega, hp3, by simp; omega, by rw [hC]; rfl, rfl, rfl⟩ ?_ ?_
  · exact ⟨[(0, 0), (4, 4), (5, 5), (93, 93)], [], [], LeG.mk' rfl rfl rfl (by repeat' (first | exact trivial | exact ⟨_, .refl _, rfl⟩ | exact ⟨_, .refl _, by show V.int .i64 (1 + (k3 : Int)) = V.int .i64 ((1 + k3 : Nat) : Int); congr 1⟩ | apply And.intro)) (.ci 0 (.ci 4 (.ci 5 (.ci 93 .nil)))) rfl rfl (by rw [hK]; rfl)⟩
  rintro m st ⟨j, i, q, out, hj, hq, ho, he, rfl, rfl⟩
  have hol := colRows_len out
  rcases m with _ | j
  · have h0 : ((0 : Nat) : Int) = 0 := rfl
    simp only [seqF, List.append_nil] at he
    have hq2 : res.2 = q := by rw [he]
    have ho2 : res.1 = out := by rw [he]
    rw [hq2] at sp4
    rw [hq2, ho2]
    clear he
    (refine gGo ?_; intros)
    (refine ⟨_, _, _, callG [(0, 0)] [] [] rfl rfl rfl (by kernel_rfl) (sp4) (by repeat' (first | exact trivial | exact Lent.refl _ | exact Lent.norm _ | exact Lent.whole rfl rfl (by first | rfl | exact List.length_append.symm | exact hlenR | simp) rfl (by first | exact .inl rfl | exact .inr rfl) | apply And.intro)) rfl ⟨rfl, rfl, rfl, rfl, rfl, by repeat' (first | exact trivial | rfl | apply And.intro), rfl, rfl⟩, ?_⟩; conv => whnf)
    (refine gGo ?_; intros)
    refine boolRes_split (fun hb => ?_) (fun hb => ?_) <;> conv => whnf
    · rw [if_pos hb]
      (refine gGo ?_; intros)
      refine W.leG (mp := [(0, 0), (4, 4)]) (bo := []) (st' := ⟨[(4, .bp 4 0)], [(0, [diceB l (nextP l q)]), (4, [.rows 3 [[.int .i64 id, .str name, .nils]] none])], [0, 4]⟩)
        (LeG.mq (.ci 0 (.ci 4 .nil))) ?_
      refine W.ownCell 4 0 2 93 2 rfl rfl rfl rfl rfl ?_
      (refine gM ?_; conv => whnf)
      exact retH rfl (.refl _) rfl rfl rfl ⟨rfl, rfl, rfl, rfl, trivial⟩
    · rw [if_neg hb]
      (refine gGo ?_; intros)
      refine W.leG (mp := [(0, 0), (4, 4), (93, 93)]) (bo := []) (st' := ⟨[(4, .bp 4 0)], [(0, [diceB l (nextP l q)]), (4, [.rows 3 [[.int .i64 id, .str name, .osl 93 0 0 (colRows out).length (colRows out).length]] none]), (93, [.rows 2 (colRows out) (some [])])], [0, 4, 93]⟩)
        (LeG.mq (.ci 0 (.ci 4 (.ci 93 .nil)))) ?_
      (refine gM ?_; conv => whnf)
      exact retH rfl (.refl _) rfl rfl rfl ⟨rfl, rfl, rfl, rfl, trivial⟩
  · have sp5 := kcolumn_spec l n q (by omega) hq
    obtain ⟨_, hq2⟩ := colK_ok (n := n) (by omega) hq
    simp only [seqF] at he
    (refine gGo ?_; intros)
    (refine ⟨_, _, _, callG [(0, 0)] [] [] rfl rfl rfl (by kernel_rfl) (sp5) (by repeat' (first | exact trivial | exact Lent.refl _ | exact Lent.norm _ | exact Lent.whole rfl rfl (by first | rfl | exact List.length_append.symm | exact hlenR | simp) rfl (by first | exact .inl rfl | exact .inr rfl) | apply And.intro)) rfl ⟨rfl, rfl, rfl, rfl, rfl, by repeat' (first | exact trivial | rfl | apply And.intro), rfl, rfl⟩, ?_⟩; conv => whnf)
    (refine gGo ?_; intros)
    refine ⟨⟨rowsSz_cons rfl rowsSz_nil, rfl⟩, fitsN (n := (colRows out).length + 1) (b := 40) (by omega) (by omega), .inl ⟨rfl, rfl, ?_⟩⟩
    conv => whnf
    (refine gGo ?_; intros)
    refine ⟨_, _, ?_, ⟨j, i + 1, _, out ++ [_], by omega, hq2, by simp; omega, (by rw [he, List.append_cons]), rfl, rfl⟩, [(0, 0), (4, 4), (5, 5), (93, 93)], [], [], LeG.mk' rfl rfl rfl ⟨⟨_, .refl _, rfl⟩, ⟨_, .refl _, rfl⟩, ⟨_, .refl _, rfl⟩, ⟨_, .refl _, rfl⟩, ⟨_, .refl _, (by show V.int .i64 (((j + 1 : Nat) : Int) - 1) = _; congr 1; omega)⟩, trivial⟩ (.ci 0 (.ci 4 (.cons 5 rfl rfl (.refl _) ?_ (.cons 93 rfl rfl (.refl _) ?_ .nil)))) rfl rfl (by rw [hK]; rfl)⟩
    · omega
    · rw [colRows_snoc, List.length_append]; rfl
    · rw [colRows_snoc]; rfl
end Go.Sx.Sp
namespace Go.Sx.Sp
open Go Go.Sx Go.Proofs
attribute [local irreducible] GoodW famL
def fitU (a : Table) (i : Nat) (b : Table) (j x y : Nat) : List Nat := (List.range y).filter fun y => fitC (cellT a i x) (cellT b j y)
def twoP (a : Table) (i : Nat) (b : Table) (j x y : Nat) : List (List Nat) := twoN a i b j x ++ (fitU a i b j x y).map fun y => [x, y]
section
variable {a b : Table} {i j : Nat}
theorem twoP_zero (x : Nat) : twoP a i b j x 0 = twoN a i b j x := by simp [twoP, fitU]
theorem twoP_yes {x y : Nat} (h : fitC (cellT a i x) (cellT b j y) = true) : twoP a i b j x (y + 1) = twoP a i b j x y ++ [[x, y]] := by
  unfold twoP fitU
  rw [List.range_succ, List.filter_append, List.map_append, List.append_assoc]
  simp [h]
theorem twoP_no {x y : Nat} (h : fitC (cellT a i x) (cellT b j y) = false) : twoP a i b j x (y + 1) = twoP a i b j x y := by
  unfold twoP fitU
  rw [List.range_succ, List.filter_append]
  simp [h]
theorem twoP_end (x : Nat) : twoP a i b j x (rowsN b) = twoN a i b j (x + 1) := by
  rw [twoN_succ]; rfl
theorem twoN_mono {n m : Nat} (h : n ≤ m) : (twoN a i b j n).length ≤ (twoN a i b j m).length := by
  induction m with
  | zero => rw [Nat.le_zero.1 h]; exact Nat.le_refl _
  | succ m ih =>
    by_cases e : n = m + 1
    · rw [e]; exact Nat.le_refl _
    · rw [twoN_succ, List.length_append]
      have := ih (by omega)
      omega
theorem fitU_mono {x y z : Nat} (h : y ≤ z) : (fitU a i b j x y).length ≤ (fitU a i b j x z).length := by
  induction z with
  | zero => rw [Nat.le_zero.1 h]; exact Nat.le_refl _
  | succ z ih =>
    by_cases e : y = z + 1
    · rw [e]; exact Nat.le_refl _
    · have h1 := ih (by omega)
      have h2 : (fitU a i b j x z).length ≤ (fitU a i b j x (z + 1)).length := by
        unfold fitU
        rw [List.range_succ, List.filter_append, List.length_append]
        omega
      omega
theorem twoP_le {x y : Nat} (hx : x < rowsN a) (hy : y ≤ rowsN b) : (twoP a i b j x y).length ≤ (twoL a i b j).length := by
  have h1 : (twoP a i b j x y).length ≤ (twoP a i b j x (rowsN b)).length := by
    unfold twoP
    rw [List.length_append, List.length_append, List.length_map, List.length_map]
    have := fitU_mono (a := a) (i := i) (b := b) (j := j) (x := x) hy
    omega
  rw [twoP_end] at h1
  exact Nat.le_trans h1 (twoN_mono (by omega))
theorem twoP_lt {x y : Nat} (hx : x < rowsN a) (hy : y < rowsN b) (h : fitC (cellT a i x) (cellT b j y) = true) : (twoP a i b j x y).length < (twoL a i b j).length := by
  have h1 := twoP_le (a := a) (b := b) (i := i) (j := j) hx (show y + 1 ≤ rowsN b by omega)
  rw [twoP_yes h, List.length_append, List.length_singleton] at h1
  omega
theorem twoL_mem {r : List Nat} (h : r ∈ twoL a i b j) : ∃ x y, x < rowsN a ∧ y < rowsN b ∧ r = [x, y] := by
  unfold twoL twoN at h
  obtain ⟨x, hx, h2⟩ := List.mem_flatMap.1 h
  obtain ⟨y, hy, rfl⟩ := List.mem_map.1 h2
  unfold fitL at hy
  exact ⟨x, y, List.mem_range.1 hx, List.mem_range.1 (List.mem_filter.1 hy).1, rfl⟩
end
end Go.Sx.Sp
namespace Go.Sx.Sp
open Go Go.Sx Go.Proofs
attribute [local irreducible] GoodW famL
theorem wf_cells {n : Nat} {rows : List (List V)} (hs : ∀ r ∈ rows, shape T (n + 2) 63 r) : ∃ l : List Cell, rows = cellRows l := by
  obtain ⟨l, h, _⟩ := rows_map (f := Cell.row) (p := fun _ => True) (rows := rows) fun r hr => by
    obtain ⟨a, b, rfl, ha, c, d, rfl, hc, rfl⟩ := shape_st (T := T) (t := 63) rfl (hs r hr)
    obtain ⟨x, rfl⟩ := shape_bool (T := T) (t := 4) rfl ha
    obtain ⟨y, rfl, _⟩ := shape_str (T := T) (t := 9) rfl hc
    exact ⟨⟨x, y⟩, rfl, trivial⟩
  exact ⟨l, h⟩
theorem wf_cols {n : Nat} {rows : List (List V)} (hs : ∀ r ∈ rows, shape T (n + 4) 30 r) : ∃ l : List Column, rows = colRows l := by
  obtain ⟨l, h, _⟩ := rows_map (f := Column.row) (p := fun _ => True) (rows := rows) fun r hr => by
    obtain ⟨a, b, rfl, ha, c, d, rfl, hc, rfl⟩ := shape_st (T := T) (t := 30) rfl (hs r hr)
    obtain ⟨x, rfl, _⟩ := shape_str (T := T) (t := 9) rfl ha
    obtain ⟨q, rfl, _, hq⟩ := shape_sl (T := T) (t := 28) rfl hc
    obtain ⟨l, rfl⟩ := wf_cells hq
    exact ⟨⟨x, l⟩, rfl, trivial⟩
  exact ⟨l, h⟩
theorem arg_table {n : Nat} {u : V} (hs : argShape T (n + 6) 25 u) : ∃ t : Table, u = .agg t.row := by
  obtain ⟨vs, rfl, h⟩ := argShape_agg (T := T) (t := 25) rfl rfl hs
  obtain ⟨a, b, rfl, ha, c, d, rfl, hc, e, f, rfl, he, rfl⟩ := shape_st (T := T) (t := 25) rfl h
  obtain ⟨x, rfl, _⟩ := shape_int (T := T) (t := 3) rfl ha
  obtain ⟨y, rfl, _⟩ := shape_str (T := T) (t := 9) rfl hc
  obtain ⟨q, rfl, _, hq⟩ := shape_sl (T := T) (t := 23) rfl he
  obtain ⟨l, rfl⟩ := wf_cols hq
  exact ⟨⟨x, y, l⟩, rfl⟩
end Go.Sx.Sp
namespace Go.Sx.Sp
open Go Go.Sx Go.Proofs
attribute [local irreducible] GoodW famL
theorem cellV_get {t : Table} (h : validB t = true) {c y : Nat} (hc : c < t.cols.length) (hy : y < rowsN t) : (cellRows (t.cols[c]).cells)[y]? = some (cellT t c y).row ∧ (cellRows (t.cols[c]).cells).length = rowsN t := by
  have hl := (validB_rows h).2 _ (List.getElem_mem hc)
  refine ⟨?_, by rw [cellRows_len, hl]⟩
  rw [cellRows_get (by omega)]
  unfold cellT
  rw [List.getD_eq_getElem?_getD (l := t.cols), List.getElem?_eq_getElem hc]
  simp only [Option.getD_some]
  rw [List.getD_eq_getElem?_getD, List.getElem?_eq_getElem (by omega)]; rfl
set_option maxHeartbeats 16000000 in
theorem two31_ok (a : Table) (i : Nat) (b : Table) (j : Nat) (hva : validB a = true) (hvb : validB b = true) (hi : i < a.cols.length) (hj : j < b.cols.length) :
    Spec Tryd.prog 10 [.agg a.row, .int .i64 i, .agg b.row, .int .i64 j] [] (.tup [.agg (if a.cols.length + b.cols.length ≤ 64 ∧ (twoL a i b j).length ≤ 4096 then togT [a, b] (twoL a i b j) else Table.zero).row, .int .i64 (if a.cols.length + b.cols.length ≤ 64 ∧ (twoL a i b j).length ≤ 4096 then 0 else 3)]) [] := by
  have sp1 := valid3_spec a
  have sp2 := valid3_spec b
  have hal := colRows_len a.cols
  have hbl := colRows_len b.cols
  have hc64 := validB_cols hva
  have hd64 := validB_cols hvb
  have hra := validB_rows hva
  have hrb := validB_rows hvb
  rw [hva] at sp1
  rw [hvb] at sp2
  refine gEn env Tryd.func10 fun Γ hN hK hML => ?_
  refine gA ?_
  (refine gE env hN (by kernel_rfl) ?_; conv => whnf)
  (refine gGs ?_; intros)
  refine W.leG (mp := [(8, 8)]) (bo := [4, 6]) (st' := ⟨[(1, .int .i64 (i : Nat)), (3, .int .i64 (j : Nat)), (4, .ro a.row 0), (6, .ro b.row 0), (8, .bp 8 0), (9, .int .i64 0)], [(8, [.rows 3 [[.int .i64 0, .str [], .nils]] none])], [8]⟩)
    (LeG.mk' rfl rfl rfl ⟨⟨_, .refl _, rfl⟩, ⟨_, .refl _, rfl⟩, ⟨_, .bp 4 0 3 a.row none rfl rfl (by simp [Table.row]) (.inr rfl), rfl⟩, ⟨_, .bp 6 0 3 b.row none rfl rfl (by simp [Table.row]) (.inr rfl), rfl⟩, ⟨_, .refl _, rfl⟩, ⟨_, .refl _, rfl⟩, trivial⟩ (.ci 8 .nil) rfl rfl (by rw [hK]; rfl)) ?_
  by_cases h64 : a.cols.length + b.cols.length ≤ 64
  · obtain ⟨ca, hca⟩ : ∃ ca, ca = a.cols[i] := ⟨_, rfl⟩
    obtain ⟨cb, hcb⟩ : ∃ cb, cb = b.cols[j] := ⟨_, rfl⟩
    have hga := colRows_get hi
    have hgb := colRows_get hj
    have hxa := fun x hx => cellV_get hva hi (y := x) hx
    have hxb := fun y hy => cellV_get hvb hj (y := y) hy
    have hla := hra.2 _ (List.getElem_mem hi)
    have hlb := hrb.2 _ (List.getElem_mem hj)
    rw [← hca] at hga hxa hla
    rw [← hcb] at hgb hxb hlb
    have hcla := cellRows_len ca.cells
    have hclb := cellRows_len cb.cells
    (refine gGo ?_; intros)
    (refine gPC (sp1) ?_; conv => whnf)
    (refine gGo ?_; intros)
    (refine gPC (sp2) ?_; conv => whnf)
    (refine gGo ?_; intros)
    refine rowAt_of (r := ca.row) (by simpa using hga) ?_
    conv => whnf
    (refine gGo ?_; intros)
    refine W.ownNil 10 190 1 rfl rfl ?_
    have hN0 : twoN a i b j 0 = [] := rfl
    refine W.leG (mp := [(8, 8), (190, 190)]) (bo := []) (st' := ⟨[(1, .int .i64 (i : Nat)), (3, .int .i64 (j : Nat)), (4, .ro a.row 0), (6, .ro b.row 0), (8, .bp 8 0), (10, .osl 190 0 0 (rowRows (twoN a i b j 0)).length (rowRows (twoN a i b j 0)).length), (62, .sl (cellRows ca.cells) false), (63, .int .i64 (cellRows ca.cells).length), (64, .int .i64 (0 : Nat))], [(8, [.rows 3 [[.int .i64 0, .str [], .nils]] none]), (190, [.rows 1 (rowRows (twoN a i b j 0)) (some [])])], [8, 190]⟩)
      (LeG.mq (.ci 8 (.ci 190 .nil))) ?_
    refine W.loopG (fun m st => ∃ x : Nat, x ≤ rowsN a ∧ (twoN a i b j x).length ≤ 4096 ∧ m = rowsN a - x ∧ st = ⟨[(1, .int .i64 (i : Nat)), (3, .int .i64 (j : Nat)), (4, .ro a.row 0), (6, .ro b.row 0), (8, .bp 8 0), (10, .osl 190 0 0 (rowRows (twoN a i b j x)).length (rowRows (twoN a i b j x)).length), (62, .sl (cellRows ca.cells) false), (63, .int .i64 (cellRows ca.cells).length), (64, .int .i64 (x : Nat))], [(8, [.rows 3 [[.int .i64 0, .str [], .nils]] none]), (190, [.rows 1 (rowRows (twoN a i b j x)) (some [])])], [8, 190]⟩)
      (rowsN a) _ ⟨0, by omega, by rw [hN0]; exact Nat.zero_le _, by omega, rfl⟩ ⟨[(8, 8), (190, 190)], [], [], LeG.mq (.ci 8 (.ci 190 .nil))⟩ ?_
    rintro m st ⟨x, hx, hxl, rfl, rfl⟩
    have hnl := rowRows_len (twoN a i b j x)
    (refine gGo ?_; intros)
    refine boolRes_split (fun hb => ?_) (fun hb => ?_) <;> conv => whnf
    · have hxlt : x < rowsN a := by omega
      obtain ⟨g1, g2⟩ := hxa x hxlt
      have hfit := fun y => fit_spec (cellT a i x) (cellT b j y)
      have hyes := fun y => twoP_yes (a := a) (b := b) (i := i) (j := j) (x := x) (y := y)
      have hno := fun y => twoP_no (a := a) (b := b) (i := i) (j := j) (x := x) (y := y)
      have hlt := fun y => twoP_lt (a := a) (b := b) (i := i) (j := j) (x := x) (y := y) hxlt
      have hle := fun y => twoP_le (a := a) (b := b) (i := i) (j := j) (x := x) (y := y) hxlt
      generalize hcx : cellT a i x = cxa at *
      (refine gGo ?_; intros)
      refine rowAt_of (r := cxa.row) (by simpa using g1) ?_
      conv => whnf
      (refine gGo ?_; intros)
      refine rowAt_of (r := cb.row) (by simpa using hgb) ?_
      conv => whnf
      (refine gGo ?_; intros)
      have hP0 : twoN a i b j x = twoP a i b j x 0 := (twoP_zero x).symm
      rw [hP0]
      rw [hP0] at hxl
      refine W.leG (mp := [(8, 8), (190, 190), (12, 12)]) (bo := []) (st' := ⟨[(1, .int .i64 (i : Nat)), (3, .int .i64 (j : Nat)), (4, .ro a.row 0), (6, .ro b.row 0), (8, .bp 8 0), (10, .osl 190 0 0 (rowRows (twoP a i b j x 0)).length (rowRows (twoP a i b j x 0)).length), (62, .sl (cellRows ca.cells) false), (63, .int .i64 (cellRows ca.cells).length), (64, .int .i64 (x : Nat)), (11, .int .i64 (x : Nat)), (12, .bp 12 0), (74, .sl (cellRows cb.cells) false), (75, .int .i64 (cellRows cb.cells).length), (76, .int .i64 (0 : Nat))], [(8, [.rows 3 [[.int .i64 0, .str [], .nils]] none]), (190, [.rows 1 (rowRows (twoP a i b j x 0)) (some [])]), (12, [.rows 2 [cxa.row] none])], [8, 190, 12]⟩)
        (LeG.mq (.ci 8 (.ci 190 (.ci 12 .nil)))) ?_
      refine W.loopG (fun m st => ∃ y : Nat, y ≤ rowsN b ∧ (twoP a i b j x y).length ≤ 4096 ∧ m = rowsN b - y ∧ st = ⟨[(1, .int .i64 (i : Nat)), (3, .int .i64 (j : Nat)), (4, .ro a.row 0), (6, .ro b.row 0), (8, .bp 8 0), (10, .osl 190 0 0 (rowRows (twoP a i b j x y)).length (rowRows (twoP a i b j x y)).length), (62, .sl (cellRows ca.cells) false), (63, .int .i64 (cellRows ca.cells).length), (64, .int .i64 (x : Nat)), (11, .int .i64 (x : Nat)), (12, .bp 12 0), (74, .sl (cellRows cb.cells) false), (75, .int .i64 (cellRows cb.cells).length), (76, .int .i64 (y : Nat))], [(8, [.rows 3 [[.int .i64 0, .str [], .nils]] none]), (190, [.rows 1 (rowRows (twoP a i b j x y)) (some [])]), (12, [.rows 2 [cxa.row] none])], [8, 190, 12]⟩)
        (rowsN b) _ ⟨0, by omega, hxl, by omega, rfl⟩ ⟨[(8, 8), (190, 190), (12, 12)], [], [], LeG.mq (.ci 8 (.ci 190 (.ci 12 .nil)))⟩ ?_
      rintro m st ⟨y, hy, hyl, rfl, rfl⟩
      have hpl := rowRows_len (twoP a i b j x y)
      (refine gGo ?_; intros)
      refine boolRes_split (fun hb => ?_) (fun hb => ?_) <;> conv => whnf
      · have hylt : y < rowsN b := by omega
        obtain ⟨g3, g4⟩ := hxb y hylt
        have spF := hfit y
        have hyes := hyes y
        have hno := hno y
        have hlt := hlt y hylt
        generalize cellT b j y = cyb at *
        generalize fitC cxa cyb = ft at *
        (refine gGo ?_; intros)
        refine rowAt_of (r := cyb.row) (by simpa using g3) ?_
        conv => whnf
        (refine gGo ?_; intros)
        (refine gPC (spF) ?_; conv => whnf)
        (refine gGo ?_; intros)
        cases ft with
        | false =>
          have hno := hno rfl
          (refine gGo ?_; intros)
          refine ⟨_, _, ?_, ⟨y + 1, by omega, by rw [hno]; exact hyl, rfl, rfl⟩, [(8, 8), (190, 190), (12, 12)], [], [], LeG.mk' rfl rfl rfl (by rw [hno]; exact (by repeat' (first | exact trivial | exact ⟨_, .refl _, rfl⟩ | apply And.intro))) (.ci 8 (.cons 190 rfl rfl (.refl _) (by rw [hno]; rfl) (.ci 12 .nil))) rfl rfl (by rw [hK]; rfl)⟩
          omega
        | true =>
          have hyes := hyes rfl
          have hlt := hlt rfl
          have hsn : rowRows (twoP a i b j x (y + 1)) = rowRows (twoP a i b j x y) ++ [[.sl (natRows [x, y]) false]] := by rw [hyes, rowRows_snoc]
          by_cases h4 : (twoP a i b j x y).length = 4096
          · have hno4 : ¬ (a.cols.length + b.cols.length ≤ 64 ∧ (twoL a i b j).length ≤ 4096) := by omega
            rw [if_neg hno4, if_neg hno4]
            (refine gGo ?_; intros)
            (refine gGr ?_; intros)
            exact ret0 rfl rfl rfl
          · have hl5 : (twoP a i b j x (y + 1)).length ≤ 4096 := by rw [hyes, List.length_append, List.length_singleton]; omega
            generalize rowRows (twoP a i b j x y) = A0 at *
            (refine gGo ?_; intros)
            refine ⟨⟨rowsSz_cons rfl rowsSz_nil, rfl⟩, fitsN (n := A0.length + 1) (b := 24) (by omega) (by omega), .inl ⟨rfl, rfl, ?_⟩⟩
            conv => whnf
            (refine gGo ?_; intros)
            refine ⟨_, _, ?_, ⟨y + 1, by omega, hl5, rfl, rfl⟩, [(8, 8), (190, 190), (12, 12)], [], [], LeG.mk' rfl rfl rfl (by rw [hsn, List.length_append]; exact (by repeat' (first | exact trivial | exact ⟨_, .refl _, rfl⟩ | apply And.intro))) (.ci 8 (.cons 190 rfl rfl (.refl _) (by rw [hsn]; rfl) (.ci 12 .nil))) rfl rfl (by rw [hK]; rfl)⟩
            omega
      · have hye : y = rowsN b := by omega
        subst hye
        have hEnd : twoP a i b j x (rowsN b) = twoN a i b j (x + 1) := twoP_end x
        rw [hEnd] at hyl ⊢
        (refine gGo ?_; intros)
        refine ⟨_, _, ?_, ⟨x + 1, by omega, hyl, rfl, rfl⟩, [(8, 8), (190, 190)], [], [], LeG.mq (.ci 8 (.ci 190 .nil))⟩
        omega
    · have hxe : x = rowsN a := by omega
      subst hxe
      have hyn : a.cols.length + b.cols.length ≤ 64 ∧ (twoL a i b j).length ≤ 4096 := ⟨h64, hxl⟩
      have hTL : twoN a i b j (rowsN a) = twoL a i b j := rfl
      rw [hTL]
      rw [hTL] at hnl hxl
      have spT := together_spec a [b] (twoL a i b j) (by simp) hxl (fun t ht => by
        simp only [List.mem_cons, List.not_mem_nil, or_false] at ht
        rcases ht with rfl | rfl
        · exact hva
        · exact hvb) (fun r hr => by
        obtain ⟨x', y', h1, h2, rfl⟩ := twoL_mem hr
        refine ⟨Nat.le_refl _, fun k t hk => ?_⟩
        match k with
        | 0 => cases hk; exact h1
        | 1 => cases hk; exact h2
        | k + 2 => cases hk)
      rw [if_pos hyn, if_pos hyn]
      refine gA ?_
      refine gD rfl ?_
      refine gG ?_
      conv => whnf
      refine W.leG (mp := [(8, 8)]) (bo := [190]) (st' := ⟨[(1, .int .i64 (i : Nat)), (3, .int .i64 (j : Nat)), (4, .ro a.row 0), (6, .ro b.row 0), (8, .bp 8 0), (10, .sl (rowRows (twoL a i b j)) false)], [(8, [.rows 3 [[.int .i64 0, .str [], .nils]] none])], [8]⟩)
        (LeG.mk' rfl rfl rfl ⟨⟨_, .refl _, rfl⟩, ⟨_, .refl _, rfl⟩, ⟨_, .refl _, rfl⟩, ⟨_, .refl _, rfl⟩, ⟨_, .refl _, rfl⟩, ⟨_, Lent.whole rfl rfl rfl rfl (.inl rfl), rfl⟩, trivial⟩ (.ci 8 .nil) rfl rfl (by rw [hK]; rfl)) ?_
      (refine gGo ?_; intros)
      (refine gPC (spT) ?_; conv => whnf)
      (refine gGr ?_; intros)
      exact ret0 rfl rfl rfl
  · rw [if_neg (by omega), if_neg (by omega)]
    (refine gGo ?_; intros)
    (refine gPC (sp1) ?_; conv => whnf)
    (refine gGo ?_; intros)
    (refine gPC (sp2) ?_; conv => whnf)
    (refine gGo ?_; intros)
    (refine gGr ?_; intros)
    exact ret0 rfl rfl rfl
end Go.Sx.Sp
namespace Go.Sx.Sp
open Go Go.Sx Go.Proofs
attribute [local irreducible] GoodW famL
set_option maxHeartbeats 8000000 in
theorem two31_spec (a : Table) (i : Int) (b : Table) (j : Int) : Spec Tryd.prog 10 [.agg a.row, .int .i64 i, .agg b.row, .int .i64 j] [] (.tup [.agg (twoE a i b j).1.row, .int .i64 (twoE a i b j).2]) [] := by
  have sp1 := valid3_spec a
  have sp2 := valid3_spec b
  have hal := colRows_len a.cols
  have hbl := colRows_len b.cols
  unfold twoE
  cases hva : validB a with
  | false =>
    rw [hva] at sp1
    rw [if_neg (by simp)]
    refine gEn env Tryd.func10 fun Γ hN hK hML => ?_
    (refine gGo ?_; intros)
    (refine gPC (sp1) ?_; conv => whnf)
    (refine gGr ?_; intros)
    exact ret0 rfl rfl rfl
  | true =>
    rw [hva] at sp1
    cases hvb : validB b with
    | false =>
      rw [hvb] at sp2
      rw [if_neg (by simp)]
      refine gEn env Tryd.func10 fun Γ hN hK hML => ?_
      (refine gGo ?_; intros)
      (refine gPC (sp1) ?_; conv => whnf)
      (refine gGo ?_; intros)
      (refine gPC (sp2) ?_; conv => whnf)
      (refine gGr ?_; intros)
      exact ret0 rfl rfl rfl
    | true =>
      rw [if_pos ⟨rfl, rfl⟩]
      rw [hvb] at sp2
      by_cases h : 0 ≤ i ∧ i < a.cols.length ∧ 0 ≤ j ∧ j < b.cols.length
      · rw [if_pos h]
        obtain ⟨i', rfl⟩ := Int.eq_ofNat_of_zero_le h.1
        obtain ⟨j', rfl⟩ := Int.eq_ofNat_of_zero_le h.2.2.1
        have := two31_ok a i' b j' hva hvb (by omega) (by omega)
        simp only [Int.toNat_natCast]
        by_cases hl : a.cols.length + b.cols.length ≤ 64 ∧ (twoL a i' b j').length ≤ 4096
        · rw [if_pos hl] at this ⊢
          rw [if_pos hl] at this
          exact this
        · rw [if_neg hl] at this ⊢
          rw [if_neg hl] at this
          exact this
      · rw [if_neg h]
        rcases (show i < 0 ∨ (0 ≤ i ∧ (a.cols.length : Int) ≤ i) ∨ (0 ≤ i ∧ i < a.cols.length ∧ j < 0) ∨ (0 ≤ i ∧ i < a.cols.length ∧ 0 ≤ j ∧ (b.cols.length : Int) ≤ j) by omega) with h1 | h1 | h1 | h1
        all_goals
          refine gEn env Tryd.func10 fun Γ hN hK hML => ?_
          (refine gGo ?_; intros)
          (refine gPC (sp1) ?_; conv => whnf)
          (refine gGo ?_; intros)
          (refine gPC (sp2) ?_; conv => whnf)
          (refine gGr ?_; intros)
          exact ret0 rfl rfl rfl
def rowP (p : Table × Table) : List V := [.int .i64 p.1.id, .str p.1.name, .sl (colRows p.1.cols) false, .int .i64 p.2.id, .str p.2.name, .sl (colRows p.2.cols) false]
def prsR (l : List (Table × Table)) : List (List V) := l.map rowP
def rowK (k : Int × Int) : List V := [.int .i64 k.1, .int .i64 k.2]
def ksR (l : List (Int × Int)) : List (List V) := l.map rowK
theorem prsR_len (l : List (Table × Table)) : (prsR l).length = l.length := List.length_map ..
theorem ksR_len (l : List (Int × Int)) : (ksR l).length = l.length := List.length_map ..
theorem prsR_get {l : List (Table × Table)} {i : Nat} (h : i < l.length) : (prsR l)[i]? = some (rowP l[i]) := by simp [prsR, h]
theorem ksR_get {l : List (Int × Int)} {i : Nat} (h : i < l.length) : (ksR l)[i]? = some (rowK l[i]) := by simp [ksR, h]
set_option maxHeartbeats 16000000 in
theorem two_law (t : List Int) (raw : Table) (i j : Int) : Spec Tryd.prog 3 [.sl (intRows .i64 t) false, .agg raw.row, .int .i64 i, .int .i64 j] [] (.bool true) [] := by
  have hl := intRows_len .i64 t
  have spL := light_spec t
  have spA := awake31_spec
  have hrl := colRows_len raw.cols
  refine gEn env Tryd.func3 fun Γ hN hK hML => ?_
  refine gA ?_
  (refine gE env hN (by kernel_rfl) ?_; conv => whnf)
  (refine gGs ?_; intros)
  by_cases hll : t.length ≤ 500 ∧ raw.cols.length ≤ 70
  · obtain ⟨hll, h70⟩ := hll
    rw [decide_eq_true hll] at spL
    (refine gGo ?_; intros)
    (refine gPC (spL) ?_; conv => whnf)
    (refine gGo ?_; intros)
    refine W.leG (mp := [(5, 5)]) (bo := []) (st' := ⟨[(0, .sl (intRows .i64 t) false), (2, .int .i64 i), (3, .int .i64 j), (5, .bp 5 0), (34, .sl (colRows raw.cols) false), (35, .int .i64 (colRows raw.cols).length), (36, .int .i64 (0 : Nat))], [(5, [.rows 3 [raw.row] none])], [5]⟩)
      (LeG.mq (.ci 5 .nil)) ?_
    refine W.loopG (fun m st => ∃ k : Nat, k ≤ raw.cols.length ∧ m = raw.cols.length - k ∧ st = ⟨[(0, .sl (intRows .i64 t) false), (2, .int .i64 i), (3, .int .i64 j), (5, .bp 5 0), (34, .sl (colRows raw.cols) false), (35, .int .i64 (colRows raw.cols).length), (36, .int .i64 (k : Nat))], [(5, [.rows 3 [raw.row] none])], [5]⟩)
      raw.cols.length _ ⟨0, by omega, by omega, rfl⟩ ⟨[(5, 5)], [], [], LeG.mq (.ci 5 .nil)⟩ ?_
    rintro m st ⟨k, hk, rfl, rfl⟩
    (refine gGo ?_; intros)
    refine boolRes_split (fun hb => ?_) (fun hb => ?_) <;> conv => whnf
    · have hkl : k < raw.cols.length := by omega
      have hg := colRows_get hkl
      generalize raw.cols[k] = cr at *
      have hcl := cellRows_len cr.cells
      (refine gGo ?_; intros)
      refine rowAt_of (r := cr.row) (by simpa using hg) ?_
      conv => whnf
      (refine gGo ?_; intros)
      by_cases h20 : cr.cells.length ≤ 20
      · (refine gGo ?_; intros)
        refine ⟨_, _, ?_, ⟨k + 1, by omega, rfl, rfl⟩, [(5, 5)], [], [], LeG.mq (.ci 5 .nil)⟩
        omega
      · (refine gGo ?_; intros)
        (refine gPC (spA) ?_; conv => whnf)
        (refine gGr ?_; intros)
        exact ret0 rfl rfl rfl
    · have spTA := table_spec t 1 0 (Nat.zero_le _)
      obtain ⟨hgA, _, hq1⟩ := tblF_ok (l := t) (id := 1) (p := 0) (Nat.zero_le _)
      generalize (tblF t 1 0).1 = A at *
      generalize (tblF t 1 0).2 = q1 at *
      have spTB := table_spec t 2 q1 hq1
      obtain ⟨hgB, _, hq2⟩ := tblF_ok (l := t) (id := 2) (p := q1) hq1
      generalize (tblF t 2 q1).1 = B at *
      generalize (tblF t 2 q1).2 = q2 at *
      have spTW := tableO_spec t 3 q2 hq2
      obtain ⟨hgW, _, hq3⟩ := tblF_ok (l := t) (id := 3) (p := q2) hq2
      have hw3 := hgW.few
      generalize (tblF t 3 q2).1.name = wn at *
      generalize (tblF t 3 q2).1.cols = W0 at *
      generalize (tblF t 3 q2).2 = q3 at *
      have hA3 := hgA.few
      (refine gGo ?_; intros)
      (refine gCA [] [(5, 170)] [] (roll_spec t) ?_; conv => whnf)
      (refine gGo ?_; intros)
      (refine gCA [(0, 170)] [] [] (spTA) ?_; conv => whnf)
      (refine gGo ?_; intros)
      (refine gCA [(0, 170)] [] [] (spTB) ?_; conv => whnf)
      (refine gGo ?_; intros)
      (refine gCA [(0, 170)] [(93, 190)] [] (spTW) ?_; conv => whnf)
      (refine gGs ?_; intros)
      refine W.leG (mp := [(5, 5), (12, 12), (13, 13), (14, 14), (190, 190)]) (bo := []) (st' := ⟨[(2, .int .i64 i), (3, .int .i64 j), (5, .bp 5 0), (12, .bp 12 0), (13, .bp 13 0), (14, .bp 14 0)], [(5, [.rows 3 [raw.row] none]), (12, [.rows 3 [A.row] none]), (13, [.rows 3 [B.row] none]), (14, [.rows 3 [[.int .i64 3, .str wn, .osl 190 0 0 (colRows (W0)).length (colRows (W0)).length]] none]), (190, [.rows 2 (colRows (W0)) (some [])])], [5, 12, 13, 14, 190]⟩)
        (LeG.mq (.ci 5 (.ci 12 (.ci 13 (.ci 14 (.ci 190 .nil)))))) ?_
      (refine gGo ?_; intros)
      refine W.loopG (fun m st => ∃ WC : List Column, WC.length ≤ 63 ∧ m = 63 - WC.length ∧ st = ⟨[(2, .int .i64 i), (3, .int .i64 j), (5, .bp 5 0), (12, .bp 12 0), (13, .bp 13 0), (14, .bp 14 0)], [(5, [.rows 3 [raw.row] none]), (12, [.rows 3 [A.row] none]), (13, [.rows 3 [B.row] none]), (14, [.rows 3 [[.int .i64 3, .str wn, .osl 190 0 0 (colRows (WC)).length (colRows (WC)).length]] none]), (190, [.rows 2 (colRows (WC)) (some [])])], [5, 12, 13, 14, 190]⟩)
        (63 - W0.length) _ ⟨W0, by omega, rfl, rfl⟩ ⟨[(5, 5), (12, 12), (13, 13), (14, 14), (190, 190)], [], [], LeG.mq (.ci 5 (.ci 12 (.ci 13 (.ci 14 (.ci 190 .nil)))))⟩ ?_
      rintro m st ⟨WC, hW, rfl, rfl⟩
      have hWl := colRows_len WC
      by_cases hgo : 0 < WC.length ∧ WC.length < 63
      · obtain ⟨hg1, hg2⟩ := hgo
        have hg := colRows_get hg1
        generalize WC[0] = c0 at *
        have hsn := colRows_snoc WC c0
        (refine gGo ?_; intros)
        refine rowAt_of (r := c0.row) (by simpa using hg) ?_
        conv => whnf
        (refine gGo ?_; intros)
        refine ⟨⟨rowsSz_cons rfl rowsSz_nil, rfl⟩, fitsN (n := (colRows WC).length + 1) (b := 40) (by omega) (by omega), .inl ⟨rfl, rfl, ?_⟩⟩
        conv => whnf
        (refine gGo ?_; intros)
        refine ⟨_, _, ?_, ⟨WC ++ [c0], by rw [List.length_append, List.length_singleton]; omega, rfl, rfl⟩, [(5, 5), (12, 12), (13, 13), (14, 14), (190, 190)], [], [], LeG.mq (.ci 5 (.ci 12 (.ci 13 (.cons 14 rfl rfl (.refl _) (by rw [hsn, List.length_append]; rfl) (.cons 190 rfl rfl (.refl _) (by rw [hsn]; rfl) .nil)))))⟩
        rw [List.length_append, List.length_singleton]; omega
      · refine W.leG (mp := [(5, 5), (12, 12), (13, 13), (14, 14)]) (bo := [190]) (st' := ⟨[(2, .int .i64 i), (3, .int .i64 j), (5, .bp 5 0), (12, .bp 12 0), (13, .bp 13 0), (14, .bp 14 0)], [(5, [.rows 3 [raw.row] none]), (12, [.rows 3 [A.row] none]), (13, [.rows 3 [B.row] none]), (14, [.rows 3 [[.int .i64 3, .str wn, .sl (colRows WC) false]] none])], [5, 12, 13, 14]⟩)
          (LeG.mq (.ci 5 (.ci 12 (.ci 13 (.cons 14 (b1 := .rows 3 [[.int .i64 3, .str wn, .sl (colRows WC) false]] none) rfl rfl (.rows _ _ _ (by repeat' (first | exact trivial | exact ⟨Lent.refl _, rfl⟩ | exact ⟨Lent.norm _, rfl⟩ | exact ⟨Lent.whole rfl rfl (by first | rfl | exact List.length_append.symm | exact hlenR | simp) rfl (by first | exact .inl rfl | exact .inr rfl), rfl⟩ | apply And.intro))) rfl .nil))))) ?_
        obtain ⟨Wd, hWd⟩ : ∃ Wd, Wd = Table.mk 3 wn WC := ⟨_, rfl⟩
        obtain ⟨PS, hPS⟩ : ∃ PS, PS = [(A, B), (A, raw), (Wd, A), (A, A)] := ⟨_, rfl⟩
        have hPB : ∀ p ∈ PS, p.1.cols.length ≤ 70 ∧ p.2.cols.length ≤ 70 := by
          have hB3 := hgB.few
          rw [hPS, hWd]
          intro p hp
          simp only [List.mem_cons, List.not_mem_nil, or_false] at hp
          rcases hp with rfl | rfl | rfl | rfl <;> simp only <;> omega
        have hP4 : PS.length = 4 := by rw [hPS]; rfl
        have hpl := prsR_len PS
        by_cases h0 : WC.length = 0
        · (refine gGo ?_; intros)
          refine W.leG (mp := []) (bo := []) (st' := ⟨[(2, .int .i64 i), (3, .int .i64 j), (85, .sl (prsR PS) false), (86, .int .i64 (prsR PS).length), (87, .int .i64 (0 : Nat))], [], []⟩)
            (LeG.mk' rfl rfl rfl (by rw [hPS, hWd]; exact (by repeat' (first | exact trivial | exact ⟨_, .refl _, rfl⟩ | apply And.intro))) .nil rfl rfl (by rw [hK]; rfl)) ?_
          clear hPS hWd
          refine W.loopG (fun m st => ∃ n : Nat, n ≤ PS.length ∧ m = PS.length - n ∧ st = ⟨[(2, .int .i64 i), (3, .int .i64 j), (85, .sl (prsR PS) false), (86, .int .i64 (prsR PS).length), (87, .int .i64 (n : Nat))], [], []⟩)
            PS.length _ ⟨0, by omega, by omega, rfl⟩ ⟨[], [], [], .mq .nil⟩ ?_
          rintro m st ⟨n, hn, rfl, rfl⟩
          (refine gGo ?_; intros)
          refine boolRes_split (fun hb => ?_) (fun hb => ?_) <;> conv => whnf
          · have hnl : n < PS.length := by omega
            have hg := prsR_get hnl
            have hb := hPB _ (List.getElem_mem hnl)
            generalize PS[n] = pp at *
            obtain ⟨P1, P2⟩ := pp
            obtain ⟨hb1, hb2⟩ := hb
            simp only at hb1 hb2
            have hc1 := colRows_len P1.cols
            have hc2 := colRows_len P2.cols
            have m1 := mod_spec i 4 (by decide)
            have m2 := mod_spec j 4 (by decide)
            have m3 := mod_spec i (max 1 ((colRows P1.cols).length : Nat)) (by omega)
            have m4 := mod_spec j (max 1 ((colRows P2.cols).length : Nat)) (by omega)
            have r1 := modK_range (n := i) (m := 4)
            have hrp : rowP (P1, P2) = [.int .i64 P1.id, .str P1.name, .sl (colRows P1.cols) false, .int .i64 P2.id, .str P2.name, .sl (colRows P2.cols) false] := rfl
            rw [hrp] at hg
            obtain ⟨KS, hKS⟩ : ∃ KS, KS = [(i, j), (modK i 4 - 1, modK j 4), (modK i (max 1 ((colRows P1.cols).length : Nat)), modK j (max 1 ((colRows P2.cols).length : Nat)))] := ⟨_, rfl⟩
            have hkl := ksR_len KS
            have hK3 : KS.length = 3 := by rw [hKS]; rfl
            (refine gGo ?_; intros)
            refine rowAt_of (by simpa using hg) ?_
            conv => whnf
            (refine gGo ?_; intros)
            (refine gPC (m1) ?_; conv => whnf)
            (refine gGo ?_; intros)
            (refine gPC (m2) ?_; conv => whnf)
            (refine gGo ?_; intros)
            (refine gPC (m3) ?_; conv => whnf)
            (refine gGo ?_; intros)
            (refine gPC (m4) ?_; conv => whnf)
            (refine gGo ?_; intros)
            refine W.leG (mp := [(16, 16)]) (bo := []) (st' := ⟨[(2, .int .i64 i), (3, .int .i64 j), (85, .sl (prsR PS) false), (86, .int .i64 (prsR PS).length), (87, .int .i64 (n : Nat)), (16, .bp 16 0), (115, .sl (ksR KS) false), (116, .int .i64 (ksR KS).length), (117, .int .i64 (0 : Nat))], [(16, [.rows 6 [[.int .i64 P1.id, .str P1.name, .sl (colRows P1.cols) false, .int .i64 P2.id, .str P2.name, .sl (colRows P2.cols) false]] none])], [16]⟩)
              (LeG.mk' rfl rfl rfl (by rw [hKS]; exact (by repeat' (first | exact trivial | exact ⟨_, .refl _, rfl⟩ | apply And.intro))) (.ci 16 .nil) rfl rfl (by rw [hK]; rfl)) ?_
            clear hKS
            refine W.loopG (fun m st => ∃ q : Nat, q ≤ KS.length ∧ m = KS.length - q ∧ st = ⟨[(2, .int .i64 i), (3, .int .i64 j), (85, .sl (prsR PS) false), (86, .int .i64 (prsR PS).length), (87, .int .i64 (n : Nat)), (16, .bp 16 0), (115, .sl (ksR KS) false), (116, .int .i64 (ksR KS).length), (117, .int .i64 (q : Nat))], [(16, [.rows 6 [[.int .i64 P1.id, .str P1.name, .sl (colRows P1.cols) false, .int .i64 P2.id, .str P2.name, .sl (colRows P2.cols) false]] none])], [16]⟩)
              KS.length _ ⟨0, by omega, by omega, rfl⟩ ⟨[(16, 16)], [], [], LeG.mq (.ci 16 .nil)⟩ ?_
            rintro m st ⟨q, hq, rfl, rfl⟩
            (refine gGo ?_; intros)
            refine boolRes_split (fun hb => ?_) (fun hb => ?_) <;> conv => whnf
            · have hql : q < KS.length := by omega
              have hg2 := ksR_get hql
              generalize KS[q] = kk at *
              obtain ⟨k1, k2⟩ := kk
              rw [show rowK (k1, k2) = [.int .i64 k1, .int .i64 k2] from rfl] at hg2
              have sp9 := two_spec P1 k1 P2 k2
              have sp10 := two31_spec P1 k1 P2 k2
              generalize (twoE P1 k1 P2 k2).1 = TT at *
              generalize (twoE P1 k1 P2 k2).2 = ee at *
              rw [show P1.row = [.int .i64 P1.id, .str P1.name, .sl (colRows P1.cols) false] from rfl, show P2.row = [.int .i64 P2.id, .str P2.name, .sl (colRows P2.cols) false] from rfl] at sp9 sp10
              have spS := same3_spec TT TT
              rw [decide_eq_true rfl] at spS
              (refine gGo ?_; intros)
              refine rowAt_of (by simpa using hg2) ?_
              conv => whnf
              (refine gGo ?_; intros)
              (refine gPC (sp9) ?_; conv => whnf)
              (refine gGo ?_; intros)
              (refine gPC (sp10) ?_; conv => whnf)
              (refine gGo ?_; intros)
              (refine gPC (spS) ?_; conv => whnf)
              (refine gGo ?_; intros)
              refine ⟨_, _, ?_, ⟨q + 1, by omega, rfl, rfl⟩, [(16, 16)], [], [], LeG.mq (.ci 16 .nil)⟩
              omega
            · (refine gGo ?_; intros)
              refine ⟨_, _, ?_, ⟨n + 1, by omega, rfl, rfl⟩, ⟨[], [], [], .mq .nil⟩⟩
              omega
          · (refine gGo ?_; intros)
            (refine gPC (spA) ?_; conv => whnf)
            (refine gGr ?_; intros)
            exact ret0 rfl rfl rfl
        · (refine gGo ?_; intros)
          refine W.leG (mp := []) (bo := []) (st' := ⟨[(2, .int .i64 i), (3, .int .i64 j), (85, .sl (prsR PS) false), (86, .int .i64 (prsR PS).length), (87, .int .i64 (0 : Nat))], [], []⟩)
            (LeG.mk' rfl rfl rfl (by rw [hPS, hWd]; exact (by repeat' (first | exact trivial | exact ⟨_, .refl _, rfl⟩ | apply And.intro))) .nil rfl rfl (by rw [hK]; rfl)) ?_
          clear hPS hWd
          refine W.loopG (fun m st => ∃ n : Nat, n ≤ PS.length ∧ m = PS.length - n ∧ st = ⟨[(2, .int .i64 i), (3, .int .i64 j), (85, .sl (prsR PS) false), (86, .int .i64 (prsR PS).length), (87, .int .i64 (n : Nat))], [], []⟩)
            PS.length _ ⟨0, by omega, by omega, rfl⟩ ⟨[], [], [], .mq .nil⟩ ?_
          rintro m st ⟨n, hn, rfl, rfl⟩
          (refine gGo ?_; intros)
          refine boolRes_split (fun hb => ?_) (fun hb => ?_) <;> conv => whnf
          · have hnl : n < PS.length := by omega
            have hg := prsR_get hnl
            have hb := hPB _ (List.getElem_mem hnl)
            generalize PS[n] = pp at *
            obtain ⟨P1, P2⟩ := pp
            obtain ⟨hb1, hb2⟩ := hb
            simp only at hb1 hb2
            have hc1 := colRows_len P1.cols
            have hc2 := colRows_len P2.cols
            have m1 := mod_spec i 4 (by decide)
            have m2 := mod_spec j 4 (by decide)
            have m3 := mod_spec i (max 1 ((colRows P1.cols).length : Nat)) (by omega)
            have m4 := mod_spec j (max 1 ((colRows P2.cols).length : Nat)) (by omega)
            have r1 := modK_range (n := i) (m := 4)
            have hrp : rowP (P1, P2) = [.int .i64 P1.id, .str P1.name, .sl (colRows P1.cols) false, .int .i64 P2.id, .str P2.name, .sl (colRows P2.cols) false] := rfl
            rw [hrp] at hg
            obtain ⟨KS, hKS⟩ : ∃ KS, KS = [(i, j), (modK i 4 - 1, modK j 4), (modK i (max 1 ((colRows P1.cols).length : Nat)), modK j (max 1 ((colRows P2.cols).length : Nat)))] := ⟨_, rfl⟩
            have hkl := ksR_len KS
            have hK3 : KS.length = 3 := by rw [hKS]; rfl
            (refine gGo ?_; intros)
            refine rowAt_of (by simpa using hg) ?_
            conv => whnf
            (refine gGo ?_; intros)
            (refine gPC (m1) ?_; conv => whnf)
            (refine gGo ?_; intros)
            (refine gPC (m2) ?_; conv => whnf)
            (refine gGo ?_; intros)
            (refine gPC (m3) ?_; conv => whnf)
            (refine gGo ?_; intros)
            (refine gPC (m4) ?_; conv => whnf)
            (refine gGo ?_; intros)
            refine W.leG (mp := [(16, 16)]) (bo := []) (st' := ⟨[(2, .int .i64 i), (3, .int .i64 j), (85, .sl (prsR PS) false), (86, .int .i64 (prsR PS).length), (87, .int .i64 (n : Nat)), (16, .bp 16 0), (115, .sl (ksR KS) false), (116, .int .i64 (ksR KS).length), (117, .int .i64 (0 : Nat))], [(16, [.rows 6 [[.int .i64 P1.id, .str P1.name, .sl (colRows P1.cols) false, .int .i64 P2.id, .str P2.name, .sl (colRows P2.cols) false]] none])], [16]⟩)
              (LeG.mk' rfl rfl rfl (by rw [hKS]; exact (by repeat' (first | exact trivial | exact ⟨_, .refl _, rfl⟩ | apply And.intro))) (.ci 16 .nil) rfl rfl (by rw [hK]; rfl)) ?_
            clear hKS
            refine W.loopG (fun m st => ∃ q : Nat, q ≤ KS.length ∧ m = KS.length - q ∧ st = ⟨[(2, .int .i64 i), (3, .int .i64 j), (85, .sl (prsR PS) false), (86, .int .i64 (prsR PS).length), (87, .int .i64 (n : Nat)), (16, .bp 16 0), (115, .sl (ksR KS) false), (116, .int .i64 (ksR KS).length), (117, .int .i64 (q : Nat))], [(16, [.rows 6 [[.int .i64 P1.id, .str P1.name, .sl (colRows P1.cols) false, .int .i64 P2.id, .str P2.name, .sl (colRows P2.cols) false]] none])], [16]⟩)
              KS.length _ ⟨0, by omega, by omega, rfl⟩ ⟨[(16, 16)], [], [], LeG.mq (.ci 16 .nil)⟩ ?_
            rintro m st ⟨q, hq, rfl, rfl⟩
            (refine gGo ?_; intros)
            refine boolRes_split (fun hb => ?_) (fun hb => ?_) <;> conv => whnf
            · have hql : q < KS.length := by omega
              have hg2 := ksR_get hql
              generalize KS[q] = kk at *
              obtain ⟨k1, k2⟩ := kk
              rw [show rowK (k1, k2) = [.int .i64 k1, .int .i64 k2] from rfl] at hg2
              have sp9 := two_spec P1 k1 P2 k2
              have sp10 := two31_spec P1 k1 P2 k2
              generalize (twoE P1 k1 P2 k2).1 = TT at *
              generalize (twoE P1 k1 P2 k2).2 = ee at *
              rw [show P1.row = [.int .i64 P1.id, .str P1.name, .sl (colRows P1.cols) false] from rfl, show P2.row = [.int .i64 P2.id, .str P2.name, .sl (colRows P2.cols) false] from rfl] at sp9 sp10
              have spS := same3_spec TT TT
              rw [decide_eq_true rfl] at spS
              (refine gGo ?_; intros)
              refine rowAt_of (by simpa using hg2) ?_
              conv => whnf
              (refine gGo ?_; intros)
              (refine gPC (sp9) ?_; conv => whnf)
              (refine gGo ?_; intros)
              (refine gPC (sp10) ?_; conv => whnf)
              (refine gGo ?_; intros)
              (refine gPC (spS) ?_; conv => whnf)
              (refine gGo ?_; intros)
              refine ⟨_, _, ?_, ⟨q + 1, by omega, rfl, rfl⟩, [(16, 16)], [], [], LeG.mq (.ci 16 .nil)⟩
              omega
            · (refine gGo ?_; intros)
              refine ⟨_, _, ?_, ⟨n + 1, by omega, rfl, rfl⟩, ⟨[], [], [], .mq .nil⟩⟩
              omega
          · (refine gGo ?_; intros)
            (refine gPC (spA) ?_; conv => whnf)
            (refine gGr ?_; intros)
            exact ret0 rfl rfl rfl
  · by_cases hl5 : t.length ≤ 500
    · rw [decide_eq_true hl5] at spL
      have h70 : ¬ raw.cols.length ≤ 70 := fun h => hll ⟨hl5, h⟩
      (refine gGo ?_; intros)
      (refine gPC (spL) ?_; conv => whnf)
      (refine gGo ?_; intros)
      (refine gPC (spA) ?_; conv => whnf)
      (refine gGr ?_; intros)
      exact ret0 rfl rfl rfl
    · rw [decide_eq_false hl5] at spL
      (refine gGo ?_; intros)
      (refine gPC (spL) ?_; conv => whnf)
      (refine gGo ?_; intros)
      (refine gPC (spA) ?_; conv => whnf)
      (refine gGr ?_; intros)
      exact ret0 rfl rfl rfl
theorem two_calls {w : World} {v0 v1 v2 v3 : Value} {u0 u1 u2 u3 : V} (r0 : VRel w (fun _ => False) (fun _ _ => none) u0 v0) (r1 : VRel w (fun _ => False) (fun _ _ => none) u1 v1) (r2 : VRel w (fun _ => False) (fun _ _ => none) u2 v2) (r3 : VRel w (fun _ => False) (fun _ _ => none) u3 v3)
    (a0 : argShape T 2 22 u0) (a1 : argShape T 6 25 u1) (a2 : argShape T 1 3 u2) (a3 : argShape T 1 3 u3) (hg : GRel w (fun _ => False)) :
    Calls Tryd.prog 3 #[v0, v1, v2, v3] w fun e w' => e = .returned (.bool true) ∧ Go.RowKit.Below w.heap.size w w' := by
  obtain ⟨l, rfl⟩ := arg_ints a0
  obtain ⟨tb, rfl⟩ := arg_table (n := 0) a1
  obtain ⟨x, rfl, _⟩ := arg_int (n := 0) a2
  obtain ⟨y, rfl, _⟩ := arg_int (n := 0) a3
  refine Spec.law (two_law l tb x y) (cargs := [v0, v1, v2, v3]) rfl (fun j u c hj hc => ?_) rfl hg
  match j with
  | 0 => cases hj; cases hc; exact r0
  | 1 => cases hj; cases hc; exact r1
  | 2 => cases hj; cases hc; exact r2
  | 3 => cases hj; cases hc; exact r3
  | j + 4 => cases hj
end Go.Sx.Sp
