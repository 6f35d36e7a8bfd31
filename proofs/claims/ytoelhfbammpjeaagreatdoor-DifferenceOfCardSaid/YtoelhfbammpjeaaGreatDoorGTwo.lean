/- Drawn operations, derived tables, and the law. -/
import Derived.Test.YtoelhfbammpjeaaGreatDoorGOne
import Derived.Test.YtoelhfbammpjeaaGreatDoorQOne
import Derived.Test.YtoelhfbammpjeaaGreatDoorDFour
import Derived.Test.YtoelhfbammpjeaaGreatDoorFOne
import Derived.Test.YtoelhfbammpjeaaGreatDoorSxFour
set_option linter.unusedVariables false
set_option linter.unusedSimpArgs false
namespace Go.Sx.Sp
open Go Go.Sx Go.Proofs
attribute [local irreducible] GoodW
def opWords : List Str := [[97], [98], [49], [50], [107, 48], []]
def projL (l : List Int) (n : Int) : Nat → Nat → List Nat → List Nat × Nat
  | 0, q, ks => (ks, q)
  | m + 1, q, ks => projL l n m (nextP l q) (ks ++ [(nextV l q n).toNat])
theorem projL_ok {l : List Int} {n : Int} : ∀ (m q : Nat) (ks : List Nat), q ≤ l.length → (projL l n m q ks).2 ≤ l.length ∧ (projL l n m q ks).1.length = ks.length + m
  | 0, q, ks, h => ⟨h, rfl⟩
  | m + 1, q, ks, h => by
    have := projL_ok (l := l) (n := n) m (nextP l q) (ks ++ [(nextV l q n).toNat]) (nextP_le h)
    refine ⟨this.1, this.2.trans ?_⟩
    simp; omega
noncomputable def eqF (l : List Int) (q : Nat) (t : Table) : OpK × Nat :=
  if 0 < t.cols.length ∧ 0 < (colK t (nextV l q t.cols.length).toNat).length then
    (if 0 < nextV l (nextP l (nextP l q)) 3 then (.eq (nextV l q t.cols.length).toNat (cellI (colK t (nextV l q t.cols.length).toNat) (nextV l (nextP l (nextP l (nextP l q))) (colK t (nextV l q t.cols.length).toNat).length).toNat).text, nextP l (nextP l (nextP l (nextP l q))))
     else (.eq (nextV l q t.cols.length).toNat (wordF opWords l (nextP l q)), nextP l (nextP l (nextP l q))))
  else (.eq (nextV l q t.cols.length).toNat (wordF opWords l (nextP l q)), nextP l (nextP l q))
noncomputable def opF (l : List Int) (q : Nat) (t : Table) : OpK × Nat :=
  if nextV l q 5 = 0 then eqF l (nextP l q) t
  else if nextV l q 5 = 1 then (.full (nextV l (nextP l q) t.cols.length).toNat, nextP l (nextP l q))
  else if nextV l q 5 = 2 then (if 0 < t.cols.length then (.proj (projL l t.cols.length (1 + (nextV l (nextP l q) 3).toNat) (nextP l (nextP l q)) []).1, (projL l t.cols.length (1 + (nextV l (nextP l q) 3).toNat) (nextP l (nextP l q)) []).2) else (.proj [], nextP l (nextP l q)))
  else if nextV l q 5 = 3 then (.dist, nextP l q)
  else (.sort (nextV l (nextP l q) t.cols.length).toNat, nextP l (nextP l q))
theorem eqF_ok {l : List Int} {q : Nat} {t : Table} (h : q ≤ l.length) : (eqF l q t).2 ≤ l.length ∧ (eqF l q t).1.ks.length ≤ 3 := by
  have h1 := nextP_le h
  have h2 := nextP_le h1
  have h3 := nextP_le h2
  have h4 := nextP_le h3
  unfold eqF
  split
  · split
    · exact ⟨h4, Nat.zero_le _⟩
    · exact ⟨h3, Nat.zero_le _⟩
  · exact ⟨h2, Nat.zero_le _⟩
theorem opF_ok {l : List Int} {q : Nat} {t : Table} (h : q ≤ l.length) : (opF l q t).2 ≤ l.length ∧ (opF l q t).1.ks.length ≤ 3 := by
  have h1 := nextP_le h
  have h2 := nextP_le h1
  have hr := nextV_range l (nextP l q) (n := 3) (by omega)
  unfold opF
  split
  · exact eqF_ok h1
  · split
    · exact ⟨h2, Nat.zero_le _⟩
    · split
      · split
        · have := projL_ok (l := l) (n := t.cols.length) (1 + (nextV l (nextP l q) 3).toNat) (nextP l (nextP l q)) [] h2
          refine ⟨this.1, ?_⟩
          show (projL _ _ _ _ _).1.length ≤ 3
          rw [this.2]; simp; omega
        · exact ⟨h2, Nat.zero_le _⟩
      · split
        · exact ⟨h1, Nat.zero_le _⟩
        · exact ⟨h2, Nat.zero_le _⟩
theorem nextV_nn (l : List Int) (q : Nat) (n : Int) : 0 ≤ nextV l q n := by
  unfold nextV
  split
  · exact modK_range.1
  · omega
set_option maxHeartbeats 16000000 in
theorem op_spec (l : List Int) (q : Nat) (t : Table) (hq : q ≤ l.length) (hn : t.cols.length ≤ 4294967295) (hcn : ∀ c ∈ t.cols, c.cells.length ≤ 4294967295) : Spec Tryz.prog 28 [.bp 0 0, .agg t.row] [(0, diceB l q)] (.agg (opF l q t).1.row) [(0, diceB l (opF l q t).2)] := by
  have h1 := nextP_le hq
  have h2 := nextP_le h1
  have h3 := nextP_le h2
  have h4 := nextP_le h3
  have hcl := colRows_len t.cols
  have sp1 := next_spec l q 5 (by omega) hq
  have hr5 := nextV_range l q (n := 5) (by omega)
  have spn := fun p (hp : p ≤ l.length) => next_spec l p (colRows t.cols).length (by omega) hp
  unfold opF
  obtain ⟨k, hk⟩ : ∃ k : Nat, nextV l q 5 = k := ⟨_, (Int.toNat_of_nonneg hr5.1).symm⟩
  rw [hk] at sp1 hr5 ⊢
  rw [← hcl] at hn ⊢
  refine gEn env Tryz.func28 fun Γ hN hK hML => ?_
  refine gA ?_
  (refine gE env hN (by kernel_rfl) ?_; conv => whnf)
  (refine gGs ?_; intros)
  refine W.leG (mp := [(0, 0), (4, 4)]) (bo := [3]) (st' := ⟨[(0, .bp 0 0), (3, .ro t.row 0), (4, .bp 4 0)], [(0, [diceB l q]), (4, [.rows 4 [[.int .i64 0, .int .i64 0, .str [], .nils]] none])], [0, 4]⟩)
    (LeG.mk' rfl rfl rfl ⟨⟨_, .refl _, rfl⟩, ⟨_, .bp 3 0 3 t.row none rfl rfl (by simp) (.inr rfl), rfl⟩, ⟨_, .refl _, rfl⟩, trivial⟩ (.ci 0 (.ci 4 .nil)) rfl rfl (by rw [hK]; rfl)) ?_
  refine gA ?_
  (refine gE env hN (by kernel_rfl) ?_; conv => whnf)
  (refine gGs ?_; intros)
  (refine ⟨_, _, _, callG [(0, 0)] [] [] rfl rfl rfl (by kernel_rfl) (sp1) (by repeat' (first | exact trivial | exact Lent.refl _ | exact Lent.norm _ | exact Lent.whole rfl rfl (by first | rfl | exact List.length_append.symm | exact hlenR | simp) rfl (by first | exact .inl rfl | exact .inr rfl) | apply And.intro)) rfl ⟨rfl, rfl, rfl, rfl, rfl, by repeat' (first | exact trivial | rfl | apply And.intro), rfl, rfl⟩, ?_⟩; conv => whnf)
  (refine gGs ?_; intros)
  refine gA ?_
  (refine gE env hN (by kernel_rfl) ?_; conv => whnf)
  (refine gGs ?_; intros)
  refine W.leG (mp := [(0, 0), (4, 4), (5, 5)]) (bo := []) (st' := ⟨[(0, .bp 0 0), (3, .ro t.row 0), (4, .bp 4 0), (5, .bp 5 0), (6, .int .i64 (colRows t.cols).length)], [(0, [diceB l (nextP l q)]), (4, [.rows 4 [[.int .i64 0, .int .i64 0, .str [], .nils]] none]), (5, [.rows 4 [([.int .i64 (1 + (k : Nat)), .int .i64 0, .str [], .nils])] none])], [0, 4, 5]⟩)
    (LeG.mq (.ci 0 (.ci 4 (.ci 5 .nil)))) ?_
  have hk5 : k = 0 ∨ k = 1 ∨ k = 2 ∨ k = 3 ∨ k = 4 := by omega
  rcases hk5 with rfl | rfl | rfl | rfl | rfl
  · refine W.leG (mp := [(0, 0), (4, 4), (5, 5)]) (bo := []) (st' := ⟨[(0, .bp 0 0), (3, .ro t.row 0), (4, .bp 4 0), (5, .bp 5 0), (6, .int .i64 (colRows t.cols).length)], [(0, [diceB l (nextP l q)]), (4, [.rows 4 [[.int .i64 0, .int .i64 0, .str [], .nils]] none]), (5, [.rows 4 [([.int .i64 (1 + ((0 : Nat) : Int)), .int .i64 0, .str [], .sl (natRowsS []) false])] none])], [0, 4, 5]⟩)
      (LeG.mq (.ci 0 (.ci 4 (.cons 5 (b1 := .rows 4 [[.int .i64 (1 + ((0 : Nat) : Int)), .int .i64 0, .str [], .sl (natRowsS []) false]] none) rfl rfl (.rows _ _ _ ⟨⟨⟨.refl _, rfl⟩, ⟨.refl _, rfl⟩, ⟨.refl _, rfl⟩, ⟨.norm _, rfl⟩, trivial⟩, trivial⟩) rfl .nil)))) ?_
    rw [if_pos (by decide)]
    unfold eqF
    rw [← hcl]
    obtain ⟨c, hc⟩ : ∃ c : Nat, nextV l (nextP l q) (colRows t.cols).length = c := ⟨_, (Int.toNat_of_nonneg (nextV_nn _ _ _)).symm⟩
    have spc := spn (nextP l q) h1
    have hrc := nextV_range l (nextP l q) (n := (colRows t.cols).length)
    rw [hc] at spc hrc ⊢
    rw [Int.toNat_natCast]
    obtain ⟨_, spw⟩ := wordF_spec (ws := opWords) (by decide) (by decide) h2
    have sp3 := next_spec l (nextP l (nextP l (nextP l q))) 3 (by omega) h3
    (refine gGo ?_; intros)
    (refine ⟨_, _, _, callG [(0, 0)] [] [] rfl rfl rfl (by kernel_rfl) (spc) (by repeat' (first | exact trivial | exact Lent.refl _ | exact Lent.norm _ | exact Lent.whole rfl rfl (by first | rfl | exact List.length_append.symm | exact hlenR | simp) rfl (by first | exact .inl rfl | exact .inr rfl) | apply And.intro)) rfl ⟨rfl, rfl, rfl, rfl, rfl, by repeat' (first | exact trivial | rfl | apply And.intro), rfl, rfl⟩, ?_⟩; conv => whnf)
    (refine gGo ?_; intros)
    (refine ⟨_, _, _, callG [(0, 0)] [] [] rfl rfl rfl (by kernel_rfl) (spw) (by repeat' (first | exact trivial | exact Lent.refl _ | exact Lent.norm _ | exact Lent.whole rfl rfl (by first | rfl | exact List.length_append.symm | exact hlenR | simp) rfl (by first | exact .inl rfl | exact .inr rfl) | apply And.intro)) rfl ⟨rfl, rfl, rfl, rfl, rfl, by repeat' (first | exact trivial | rfl | apply And.intro), rfl, rfl⟩, ?_⟩; conv => whnf)
    by_cases hn0 : 0 < (colRows t.cols).length
    · have hcn0 : c < t.cols.length := by omega
      have hgc := colRows_get hcn0
      have hcm := hcn _ (List.getElem_mem hcn0)
      have eA : colK t c = t.cols[c].cells := by simp [colK, hcn0]
      rw [eA]
      generalize t.cols[c] = cc at *
      have hlc := cellRows_len cc.cells
      rw [← hlc] at hcm ⊢
      (refine gGo ?_; intros)
      refine rowAt_of (by simpa using hgc) ?_
      conv => whnf
      by_cases hm0 : 0 < (cellRows cc.cells).length
      · rw [if_pos ⟨hn0, hm0⟩]
        (refine gGo ?_; intros)
        (refine ⟨_, _, _, callG [(0, 0)] [] [] rfl rfl rfl (by kernel_rfl) (sp3) (by repeat' (first | exact trivial | exact Lent.refl _ | exact Lent.norm _ | exact Lent.whole rfl rfl (by first | rfl | exact List.length_append.symm | exact hlenR | simp) rfl (by first | exact .inl rfl | exact .inr rfl) | apply And.intro)) rfl ⟨rfl, rfl, rfl, rfl, rfl, by repeat' (first | exact trivial | rfl | apply And.intro), rfl, rfl⟩, ?_⟩; conv => whnf)
        by_cases hz : 0 < nextV l (nextP l (nextP l (nextP l q))) 3
        · rw [if_pos hz]
          obtain ⟨r, hr⟩ : ∃ r : Nat, nextV l (nextP l (nextP l (nextP l (nextP l q)))) (cellRows cc.cells).length = r := ⟨_, (Int.toNat_of_nonneg (nextV_nn _ _ _)).symm⟩
          have spr := next_spec l (nextP l (nextP l (nextP l (nextP l q)))) (cellRows cc.cells).length (by omega) h4
          have hrr := nextV_range l (nextP l (nextP l (nextP l (nextP l q)))) (n := (cellRows cc.cells).length) (by omega)
          rw [hr] at spr hrr ⊢
          rw [Int.toNat_natCast]
          have hrl : r < cc.cells.length := by omega
          have hgr := cellRows_get hrl
          have hci : cellI cc.cells r = cc.cells[r] := by simp [cellI, hrl]
          rw [hci]
          generalize cc.cells[r] = x at *
          (refine gGo ?_; intros)
          refine rowAt_of (by simpa using hgc) ?_
          conv => whnf
          (refine gGo ?_; intros)
          refine rowAt_of (by simpa using hgc) ?_
          conv => whnf
          (refine gGo ?_; intros)
          (refine ⟨_, _, _, callG [(0, 0)] [] [] rfl rfl rfl (by kernel_rfl) (spr) (by repeat' (first | exact trivial | exact Lent.refl _ | exact Lent.norm _ | exact Lent.whole rfl rfl (by first | rfl | exact List.length_append.symm | exact hlenR | simp) rfl (by first | exact .inl rfl | exact .inr rfl) | apply And.intro)) rfl ⟨rfl, rfl, rfl, rfl, rfl, by repeat' (first | exact trivial | rfl | apply And.intro), rfl, rfl⟩, ?_⟩; conv => whnf)
          (refine gGo ?_; intros)
          refine rowAt_of (by simpa using hgr) ?_
          conv => whnf
          (refine gGo ?_; intros)
          (refine gM ?_; conv => whnf)
          exact retH rfl (.refl _) rfl rfl rfl ⟨rfl, rfl, trivial⟩
        · rw [if_neg hz]
          (refine gGo ?_; intros)
          (refine gM ?_; conv => whnf)
          exact retH rfl (.refl _) rfl rfl rfl ⟨rfl, rfl, trivial⟩
      · rw [if_neg (fun h => hm0 h.2)]
        (refine gGo ?_; intros)
        (refine gM ?_; conv => whnf)
        exact retH rfl (.refl _) rfl rfl rfl ⟨rfl, rfl, trivial⟩
    · rw [if_neg (fun h => hn0 h.1)]
      (refine gGo ?_; intros)
      (refine gM ?_; conv => whnf)
      exact retH rfl (.refl _) rfl rfl rfl ⟨rfl, rfl, trivial⟩
  · refine W.leG (mp := [(0, 0), (4, 4), (5, 5)]) (bo := []) (st' := ⟨[(0, .bp 0 0), (3, .ro t.row 0), (4, .bp 4 0), (5, .bp 5 0), (6, .int .i64 (colRows t.cols).length)], [(0, [diceB l (nextP l q)]), (4, [.rows 4 [[.int .i64 0, .int .i64 0, .str [], .nils]] none]), (5, [.rows 4 [([.int .i64 (1 + ((1 : Nat) : Int)), .int .i64 0, .str [], .sl (natRowsS []) false])] none])], [0, 4, 5]⟩)
      (LeG.mq (.ci 0 (.ci 4 (.cons 5 (b1 := .rows 4 [[.int .i64 (1 + ((1 : Nat) : Int)), .int .i64 0, .str [], .sl (natRowsS []) false]] none) rfl rfl (.rows _ _ _ ⟨⟨⟨.refl _, rfl⟩, ⟨.refl _, rfl⟩, ⟨.refl _, rfl⟩, ⟨.norm _, rfl⟩, trivial⟩, trivial⟩) rfl .nil)))) ?_
    rw [if_neg (by decide), if_pos (by decide)]
    obtain ⟨c, hc⟩ : ∃ c : Nat, nextV l (nextP l q) (colRows t.cols).length = c := ⟨_, (Int.toNat_of_nonneg (nextV_nn _ _ _)).symm⟩
    have spc := spn (nextP l q) h1
    rw [hc] at spc ⊢
    rw [Int.toNat_natCast]
    (refine gGo ?_; intros)
    (refine ⟨_, _, _, callG [(0, 0)] [] [] rfl rfl rfl (by kernel_rfl) (spc) (by repeat' (first | exact trivial | exact Lent.refl _ | exact Lent.norm _ | exact Lent.whole rfl rfl (by first | rfl | exact List.length_append.symm | exact hlenR | simp) rfl (by first | exact .inl rfl | exact .inr rfl) | apply And.intro)) rfl ⟨rfl, rfl, rfl, rfl, rfl, by repeat' (first | exact trivial | rfl | apply And.intro), rfl, rfl⟩, ?_⟩; conv => whnf)
    (refine gGo ?_; intros)
    (refine gM ?_; conv => whnf)
    exact retH rfl (.refl _) rfl rfl rfl ⟨rfl, rfl, trivial⟩
  · rw [if_neg (by decide), if_neg (by decide), if_pos (by decide)]
    obtain ⟨M, hM⟩ : ∃ M : Nat, nextV l (nextP l q) 3 = M := ⟨_, (Int.toNat_of_nonneg (nextV_nn _ _ _)).symm⟩
    have sp3 := next_spec l (nextP l q) 3 (by omega) h1
    have hr3 := nextV_range l (nextP l q) (n := 3) (by omega)
    rw [hM] at sp3 hr3 ⊢
    rw [Int.toNat_natCast]
    by_cases hn0 : 0 < (colRows t.cols).length
    · rw [if_pos hn0]
      (refine gGo ?_; intros)
      (refine ⟨_, _, _, callG [(0, 0)] [] [] rfl rfl rfl (by kernel_rfl) (sp3) (by repeat' (first | exact trivial | exact Lent.refl _ | exact Lent.norm _ | exact Lent.whole rfl rfl (by first | rfl | exact List.length_append.symm | exact hlenR | simp) rfl (by first | exact .inl rfl | exact .inr rfl) | apply And.intro)) rfl ⟨rfl, rfl, rfl, rfl, rfl, by repeat' (first | exact trivial | rfl | apply And.intro), rfl, rfl⟩, ?_⟩; conv => whnf)
      (refine gGo ?_; intros)
      refine W.ownCell 5 0 3 90 1 rfl rfl rfl rfl rfl ?_
      refine W.loopG (fun m st => ∃ (p : Nat) (ks : List Nat), p ≤ l.length ∧ ks.length + m = 1 + M ∧ projL l (colRows t.cols).length (1 + M) (nextP l (nextP l q)) [] = projL l (colRows t.cols).length m p ks ∧ st = ⟨[(0, .bp 0 0), (4, .bp 4 0), (5, .bp 5 0), (6, .int .i64 (colRows t.cols).length), (7, .int .i64 ((m : Nat) : Int))], [(0, [diceB l p]), (4, [.rows 4 [[.int .i64 0, .int .i64 0, .str [], .nils]] none]), (5, [.rows 4 [[.int .i64 (1 + ((2 : Nat) : Int)), .int .i64 0, .str [], .osl 90 0 0 (natRowsS ks).length (natRowsS ks).length]] none]), (90, [.rows 1 (natRowsS ks) (some [])])], [0, 4, 5, 90]⟩)
        (1 + M) _ ⟨nextP l (nextP l q), [], h2, by simp, rfl, rfl⟩ ⟨[(0, 0), (4, 4), (5, 5), (90, 90)], [], [], .mq (.ci 0 (.ci 4 (.ci 5 (.ci 90 .nil))))⟩ ?_
      rintro m st ⟨p, ks, hp, hlen, hgo, rfl⟩
      have hkl := natRowsS_len ks
      cases m with
      | zero =>
        have he : projL l (colRows t.cols).length 0 p ks = (ks, p) := rfl
        rw [hgo, he]
        (refine gGo ?_; intros)
        refine W.leG (mp := [(0, 0), (4, 4)]) (bo := [90]) (st' := ⟨[(4, .bp 4 0)], [(0, [diceB l p]), (4, [.rows 4 [[.int .i64 (1 + ((2 : Nat) : Int)), .int .i64 0, .str [], .sl (natRowsS ks) false]] none])], [0, 4]⟩)
          (LeG.mq (.ci 0 (.cons 4 (b1 := .rows 4 [[.int .i64 (1 + ((2 : Nat) : Int)), .int .i64 0, .str [], .sl (natRowsS ks) false]] none) rfl rfl (.rows _ _ _ ⟨⟨⟨.refl _, rfl⟩, ⟨.refl _, rfl⟩, ⟨.refl _, rfl⟩, ⟨Lent.whole rfl rfl rfl rfl (.inl rfl), rfl⟩, trivial⟩, trivial⟩) rfl .nil))) ?_
        (refine gM ?_; conv => whnf)
        exact retH rfl (.refl _) rfl rfl rfl ⟨rfl, rfl, trivial⟩
      | succ m =>
        obtain ⟨c, hc⟩ : ∃ c : Nat, nextV l p (colRows t.cols).length = c := ⟨_, (Int.toNat_of_nonneg (nextV_nn _ _ _)).symm⟩
        have spc := spn p hp
        have hst : projL l (colRows t.cols).length (m + 1) p ks = projL l (colRows t.cols).length m (nextP l p) (ks ++ [(nextV l p (colRows t.cols).length).toNat]) := rfl
        rw [hc] at spc hst
        rw [Int.toNat_natCast] at hst
        have hsn : natRowsS (ks ++ [c]) = natRowsS ks ++ [[.int .i64 (c : Nat)]] := by simp [natRowsS, natL, intRows]
        have hnl : (natRowsS (ks ++ [c])).length = (natRowsS ks).length + 1 := by rw [hsn, List.length_append]; rfl
        (refine gGo ?_; intros)
        (refine ⟨_, _, _, callG [(0, 0)] [] [] rfl rfl rfl (by kernel_rfl) (spc) (by repeat' (first | exact trivial | exact Lent.refl _ | exact Lent.norm _ | exact Lent.whole rfl rfl (by first | rfl | exact List.length_append.symm | exact hlenR | simp) rfl (by first | exact .inl rfl | exact .inr rfl) | apply And.intro)) rfl ⟨rfl, rfl, rfl, rfl, rfl, by repeat' (first | exact trivial | rfl | apply And.intro), rfl, rfl⟩, ?_⟩; conv => whnf)
        (refine gGo ?_; intros)
        refine ⟨⟨rowsSz_cons rfl rowsSz_nil, rfl⟩, fitN (n := (natRowsS ks).length + 1) (b := 8) (by omega) (by omega), .inl ⟨rfl, rfl, ?_⟩⟩
        conv => whnf
        (refine gGo ?_; intros)
        refine ⟨m, _, by omega, ⟨nextP l p, ks ++ [c], nextP_le hp, by simp; omega, hgo.trans hst, rfl⟩, [(0, 0), (4, 4), (5, 5), (90, 90)], [], [], LeG.mk' rfl rfl rfl (by repeat' (first | exact trivial | exact ⟨_, .refl _, rfl⟩ | (rw [show ((m + 1 : Nat) : Int) - 1 = (m : Nat) by omega]; exact ⟨_, .refl _, rfl⟩) | apply And.intro)) (.ci 0 (.ci 4 (.cons 5 rfl rfl (.refl _) (by rw [hnl]; rfl) (.cons 90 rfl rfl (.refl _) (by rw [hsn]; rfl) .nil)))) rfl rfl (by rw [hK]; rfl)⟩
    · rw [if_neg hn0]
      (refine gGo ?_; intros)
      (refine ⟨_, _, _, callG [(0, 0)] [] [] rfl rfl rfl (by kernel_rfl) (sp3) (by repeat' (first | exact trivial | exact Lent.refl _ | exact Lent.norm _ | exact Lent.whole rfl rfl (by first | rfl | exact List.length_append.symm | exact hlenR | simp) rfl (by first | exact .inl rfl | exact .inr rfl) | apply And.intro)) rfl ⟨rfl, rfl, rfl, rfl, rfl, by repeat' (first | exact trivial | rfl | apply And.intro), rfl, rfl⟩, ?_⟩; conv => whnf)
      (refine gGo ?_; intros)
      refine W.loopG (fun m st => m = 0 ∧ st = ⟨[(0, .bp 0 0), (4, .bp 4 0), (5, .bp 5 0), (6, .int .i64 (colRows t.cols).length), (7, .int .i64 ((1 + M : Nat) : Int))], [(0, [diceB l (nextP l (nextP l q))]), (4, [.rows 4 [[.int .i64 0, .int .i64 0, .str [], .nils]] none]), (5, [.rows 4 [[.int .i64 (1 + ((2 : Nat) : Int)), .int .i64 0, .str [], .sl (natRowsS []) false]] none])], [0, 4, 5]⟩)
        0 _ ⟨rfl, rfl⟩ ⟨[(0, 0), (4, 4), (5, 5)], [], [], LeG.mq (.ci 0 (.ci 4 (.cons 5 (b1 := .rows 4 [[.int .i64 (1 + ((2 : Nat) : Int)), .int .i64 0, .str [], .sl (natRowsS []) false]] none) rfl rfl (.rows _ _ _ ⟨⟨⟨.refl _, rfl⟩, ⟨.refl _, rfl⟩, ⟨.refl _, rfl⟩, ⟨.norm _, rfl⟩, trivial⟩, trivial⟩) rfl .nil)))⟩ ?_
      rintro m st ⟨rfl, rfl⟩
      (refine gGo ?_; intros)
      (refine gGo ?_; intros)
      (refine gM ?_; conv => whnf)
      exact retH rfl (.refl _) rfl rfl rfl ⟨rfl, rfl, trivial⟩
  · refine W.leG (mp := [(0, 0), (4, 4), (5, 5)]) (bo := []) (st' := ⟨[(0, .bp 0 0), (3, .ro t.row 0), (4, .bp 4 0), (5, .bp 5 0), (6, .int .i64 (colRows t.cols).length)], [(0, [diceB l (nextP l q)]), (4, [.rows 4 [[.int .i64 0, .int .i64 0, .str [], .nils]] none]), (5, [.rows 4 [([.int .i64 (1 + ((3 : Nat) : Int)), .int .i64 0, .str [], .sl (natRowsS []) false])] none])], [0, 4, 5]⟩)
      (LeG.mq (.ci 0 (.ci 4 (.cons 5 (b1 := .rows 4 [[.int .i64 (1 + ((3 : Nat) : Int)), .int .i64 0, .str [], .sl (natRowsS []) false]] none) rfl rfl (.rows _ _ _ ⟨⟨⟨.refl _, rfl⟩, ⟨.refl _, rfl⟩, ⟨.refl _, rfl⟩, ⟨.norm _, rfl⟩, trivial⟩, trivial⟩) rfl .nil)))) ?_
    rw [if_neg (by decide), if_neg (by decide), if_neg (by decide), if_pos (by decide)]
    (refine gGo ?_; intros)
    (refine gM ?_; conv => whnf)
    exact retH rfl (.refl _) rfl rfl rfl ⟨rfl, rfl, trivial⟩
  · refine W.leG (mp := [(0, 0), (4, 4), (5, 5)]) (bo := []) (st' := ⟨[(0, .bp 0 0), (3, .ro t.row 0), (4, .bp 4 0), (5, .bp 5 0), (6, .int .i64 (colRows t.cols).length)], [(0, [diceB l (nextP l q)]), (4, [.rows 4 [[.int .i64 0, .int .i64 0, .str [], .nils]] none]), (5, [.rows 4 [([.int .i64 (1 + ((4 : Nat) : Int)), .int .i64 0, .str [], .sl (natRowsS []) false])] none])], [0, 4, 5]⟩)
      (LeG.mq (.ci 0 (.ci 4 (.cons 5 (b1 := .rows 4 [[.int .i64 (1 + ((4 : Nat) : Int)), .int .i64 0, .str [], .sl (natRowsS []) false]] none) rfl rfl (.rows _ _ _ ⟨⟨⟨.refl _, rfl⟩, ⟨.refl _, rfl⟩, ⟨.refl _, rfl⟩, ⟨.norm _, rfl⟩, trivial⟩, trivial⟩) rfl .nil)))) ?_
    rw [if_neg (by decide), if_neg (by decide), if_neg (by decide), if_neg (by decide)]
    obtain ⟨c, hc⟩ : ∃ c : Nat, nextV l (nextP l q) (colRows t.cols).length = c := ⟨_, (Int.toNat_of_nonneg (nextV_nn _ _ _)).symm⟩
    have spc := spn (nextP l q) h1
    rw [hc] at spc ⊢
    rw [Int.toNat_natCast]
    (refine gGo ?_; intros)
    (refine ⟨_, _, _, callG [(0, 0)] [] [] rfl rfl rfl (by kernel_rfl) (spc) (by repeat' (first | exact trivial | exact Lent.refl _ | exact Lent.norm _ | exact Lent.whole rfl rfl (by first | rfl | exact List.length_append.symm | exact hlenR | simp) rfl (by first | exact .inl rfl | exact .inr rfl) | apply And.intro)) rfl ⟨rfl, rfl, rfl, rfl, rfl, by repeat' (first | exact trivial | rfl | apply And.intro), rfl, rfl⟩, ?_⟩; conv => whnf)
    (refine gGo ?_; intros)
    (refine gM ?_; conv => whnf)
    exact retH rfl (.refl _) rfl rfl rfl ⟨rfl, rfl, trivial⟩
end Go.Sx.Sp
namespace Go.Sx.Sp
open Go Go.Sx Go.Proofs
attribute [local irreducible] GoodW
structure Table.Less (t : Table) : Prop where
  cols : t.cols.length ≤ 4294967295
  cells : ∀ c ∈ t.cols, c.cells.length ≤ 4294967295
theorem Table.Less.few {t : Table} (h : t.Less) : t.Few := ⟨by have := h.cols; omega, fun c hc => by have := h.cells c hc; omega⟩
theorem doM_less {t : Table} {o : OpK} (hv : validB t = true) (hc : canB t o = true) : (doM t o).Less := by
  have hf : t.Less := by
    have hc := valid_cells hv
    have hn := validB_n hv
    refine ⟨?_, fun c h => ?_⟩
    · simp only [validB, headB, Bool.and_eq_true, decide_eq_true_eq] at hv; omega
    · rw [hc c h]; omega
  have hn := validB_n hv
  have hsel : ∀ rs : List Nat, rs.length ≤ rowsN t → (selT t rs).Less := fun rs hr => by
    refine ⟨by simp [selT]; exact hf.cols, fun c h => ?_⟩
    simp only [selT, List.mem_map] at h
    obtain ⟨c', _, rfl⟩ := h
    simp [selC]; omega
  cases o with
  | proj ks =>
    simp only [canB, Bool.and_eq_true, decide_eq_true_eq, List.all_eq_true] at hc
    refine ⟨by simp [doM, projT]; omega, fun c h => ?_⟩
    simp only [doM, projT, List.mem_map] at h
    obtain ⟨k, hk, rfl⟩ := h
    have := hc.1 k hk
    rw [projC, List.getD_eq_getElem?_getD, List.getElem?_eq_getElem this]
    exact hf.cells _ (List.getElem_mem this)
  | _ => exact hsel _ (opRows_len _ _ _)
noncomputable def nxtT (l : List Int) (q : Nat) (t : Table) : Table := if (runM t (opF l q t).1).2 = 0 then (runM t (opF l q t).1).1 else t
noncomputable def derL (l : List Int) : Nat → Nat → Table → Table × Nat
  | 0, q, t => (t, q)
  | m + 1, q, t => derL l m (opF l q t).2 (nxtT l q t)
noncomputable def derF (l : List Int) (q : Nat) (t : Table) (id : Int) : Table × Nat := ({ (derL l (nextV l q 3).toNat (nextP l q) t).1 with id := id }, (derL l (nextV l q 3).toNat (nextP l q) t).2)
theorem nxtT_less {l : List Int} {q : Nat} {t : Table} (h : t.Less) : (nxtT l q t).Less := by
  unfold nxtT runM
  by_cases hv : validB t = true
  · rw [if_pos hv]
    by_cases hc : canB t (opF l q t).1 = true
    · rw [if_pos hc, if_pos rfl]; exact doM_less hv hc
    · rw [if_neg hc, if_neg (by show ¬ (24 : Int) = 0; decide)]; exact h
  · rw [if_neg hv, if_neg (by show ¬ (1 : Int) = 0; decide)]; exact h
set_option maxHeartbeats 8000000 in
theorem derived_spec (l : List Int) (q : Nat) (t : Table) (id : Int) (hq : q ≤ l.length) (ht : t.Less) : Spec Tryz.prog 11 [.bp 0 0, .agg t.row, .int .i64 id] [(0, diceB l q)] (.agg (derF l q t id).1.row) [(0, diceB l (derF l q t id).2)] := by
  have h1 := nextP_le hq
  have hr := nextV_range l q (n := 3) (by omega)
  have sp1 := next_spec l q 3 (by omega) hq
  unfold derF
  obtain ⟨M, hM⟩ : ∃ M : Nat, nextV l q 3 = M := ⟨_, (Int.toNat_of_nonneg hr.1).symm⟩
  rw [hM] at sp1 ⊢
  rw [Int.toNat_natCast]
  refine gEn env Tryz.func11 fun Γ hN hK hML => ?_
  (refine gGo ?_; intros)
  (refine ⟨_, _, _, callG [(0, 0)] [] [] rfl rfl rfl (by kernel_rfl) (sp1) (by repeat' (first | exact trivial | exact Lent.refl _ | exact Lent.norm _ | exact Lent.whole rfl rfl (by first | rfl | exact List.length_append.symm | exact hlenR | simp) rfl (by first | exact .inl rfl | exact .inr rfl) | apply And.intro)) rfl ⟨rfl, rfl, rfl, rfl, rfl, by repeat' (first | exact trivial | rfl | apply And.intro), rfl, rfl⟩, ?_⟩; conv => whnf)
  (refine gGo ?_; intros)
  refine W.loopG (fun m st => ∃ (p : Nat) (u : Table), m ≤ 3 ∧ p ≤ l.length ∧ u.Less ∧ derL l M (nextP l q) t = derL l m p u ∧ st = ⟨[(0, .bp 0 0), (2, .int .i64 id), (4, .bp 4 0), (6, .bp 6 0), (7, .int .i64 (m : Nat))], [(0, [diceB l (p)]), (4, [.rows 3 [(u).row] none]), (6, [.rows 3 [[.int .i64 0, .str [], .nils]] none])], [0, 4, 6]⟩)
    M _ ⟨nextP l q, t, by omega, h1, ht, rfl, rfl⟩ ⟨[(0, 0), (4, 4), (6, 6)], [], [], .mq (.ci 0 (.ci 4 (.ci 6 .nil)))⟩ ?_
  rintro m st ⟨p, u, hm3, hp, hu, hgo, rfl⟩
  cases m with
  | zero =>
    have he : derL l 0 p u = (u, p) := rfl
    have spc := copy38_spec u hu.few
    rw [hgo, he]
    (refine gGo ?_; intros)
    (refine gPC (spc) ?_; conv => whnf)
    (refine gGo ?_; intros)
    (refine gM ?_; conv => whnf)
    exact retH rfl (.refl _) rfl rfl rfl ⟨rfl, rfl, trivial⟩
  | succ m =>
    obtain ⟨ho1, ho2⟩ := opF_ok (t := u) hp
    have spo := op_spec l p u hp hu.cols hu.cells
    have spr := run38_spec u (opF l p u).1 hu.few hu.cols (by omega)
    have hst : derL l (m + 1) p u = derL l m (opF l p u).2 (nxtT l p u) := rfl
    have hnl := nxtT_less (l := l) (q := p) hu
    have hnx : nxtT l p u = if (runM u (opF l p u).1).2 = 0 then (runM u (opF l p u).1).1 else u := rfl
    rw [hnx] at hst hnl
    clear hnx
    generalize runM u (opF l p u).1 = r at *
    obtain ⟨rt, re⟩ := r
    simp only at hst hnl spr
    generalize opF l p u = oq at *
    obtain ⟨o, q2⟩ := oq
    simp only at hst ho1 ho2 spo spr
    (refine gGo ?_; intros)
    (refine ⟨_, _, _, callG [(0, 0)] [] [] rfl rfl rfl (by kernel_rfl) (spo) (by repeat' (first | exact trivial | exact Lent.refl _ | exact Lent.norm _ | exact Lent.whole rfl rfl (by first | rfl | exact List.length_append.symm | exact hlenR | simp) rfl (by first | exact .inl rfl | exact .inr rfl) | apply And.intro)) rfl ⟨rfl, rfl, rfl, rfl, rfl, by repeat' (first | exact trivial | rfl | apply And.intro), rfl, rfl⟩, ?_⟩; conv => whnf)
    (refine gGo ?_; intros)
    (refine gPC (spr) ?_; conv => whnf)
    (refine gGo ?_; intros)
    by_cases he : re = 0
    · rw [if_pos he] at hst hnl
      (refine gGo ?_; intros)
      refine ⟨m, _, by omega, ⟨q2, rt, by omega, ho1, hnl, hgo.trans hst, rfl⟩, [(0, 0), (4, 4), (6, 6)], [], [], LeG.mk' rfl rfl rfl (by repeat' (first | exact trivial | exact ⟨_, .refl _, rfl⟩ | (rw [show ((m + 1 : Nat) : Int) - 1 = (m : Nat) by omega]; exact ⟨_, .refl _, rfl⟩) | apply And.intro)) (.ci 0 (.ci 4 (.ci 6 .nil))) rfl rfl (by rw [hK]; rfl)⟩
    · rw [if_neg he] at hst hnl
      (refine gGo ?_; intros)
      refine ⟨m, _, by omega, ⟨q2, u, by omega, ho1, hnl, hgo.trans hst, rfl⟩, [(0, 0), (4, 4), (6, 6)], [], [], LeG.mk' rfl rfl rfl (by repeat' (first | exact trivial | exact ⟨_, .refl _, rfl⟩ | (rw [show ((m + 1 : Nat) : Int) - 1 = (m : Nat) by omega]; exact ⟨_, .refl _, rfl⟩) | apply And.intro)) (.ci 0 (.ci 4 (.ci 6 .nil))) rfl rfl (by rw [hK]; rfl)⟩
end Go.Sx.Sp
namespace Go.Sx.Sp
open Go Go.Sx Go.Proofs
attribute [local irreducible] GoodW
theorem keyF_ok (l : List Int) (id : Int) (p : Nat) (hp : p ≤ l.length) : (keyF l id p).2 ≤ l.length := (keyGo_ok _ _ _ _ (nextP_le hp) ⟨List.nodup_nil, rfl, fun _ h => (by cases h), fun _ h => (by cases h)⟩).2.1
theorem keyF_two (l : List Int) (id : Int) (p : Nat) : ∃ c0 c1 : Column, (keyF l id p).1 = ⟨id, [], [c0, c1]⟩ := ⟨_, _, rfl⟩
theorem good_less {t : Table} (h : GoodTable t) : t.Less := by
  obtain ⟨n, hn, hc⟩ := h.cols
  have hf := h.few
  exact ⟨by omega, fun c hcm => by have := (hc c hcm).len; omega⟩
theorem pure_cols (l : List Column) : pureB (colRows l) = true := by
  simp only [pureB, colRows, List.all_map, List.all_eq_true]
  intro c _
  simp [Column.row, V.sites]
set_option maxHeartbeats 16000000 in
theorem of_law (l : List Int) (x y : Table) (key what : Int) : Spec Tryz.prog 3 [.sl (intRows .i64 l) false, .agg x.row, .agg y.row, .int .i64 key, .int .i64 what] [] (.bool true) [] := by
  have hl := intRows_len .i64 l
  have spL := light_spec l
  have spA := awake37_spec
  have hclx := colRows_len x.cols
  have hcly := colRows_len y.cols
  have hdt : List.drop (Int.toNat 0) (List.take (((colRows x.cols).length : Nat) : Int).toNat (colRows x.cols)) = colRows x.cols := by
    rw [Int.toNat_natCast, List.take_length]; rfl
  have happ : colRows x.cols ++ colRows y.cols = colRows (x.cols ++ y.cols) := by simp [colRows]
  refine gEn env Tryz.func3 fun Γ hN hK hML => ?_
  refine gA ?_
  (refine gE env hN (by kernel_rfl) ?_; conv => whnf)
  (refine gGs ?_; intros)
  refine W.leG (mp := []) (bo := [6, 7]) (st' := ⟨[(0, .sl (intRows .i64 l) false), (3, .int .i64 key), (4, .int .i64 what), (6, .ro x.row 0), (7, .ro y.row 0)], [], []⟩)
    (LeG.mk' rfl rfl rfl ⟨⟨_, .refl _, rfl⟩, ⟨_, .refl _, rfl⟩, ⟨_, .refl _, rfl⟩, ⟨_, .bp 6 0 3 x.row none rfl rfl (by simp) (.inr rfl), rfl⟩, ⟨_, .bp 7 0 3 y.row none rfl rfl (by simp) (.inr rfl), rfl⟩, trivial⟩ .nil rfl rfl (by rw [hK]; rfl)) ?_
  by_cases hll : l.length ≤ 500
  · rw [decide_eq_true hll] at spL
    by_cases hx6 : x.cols.length ≤ 6
    · by_cases hy6 : y.cols.length ≤ 6
      · (refine gGs ?_; intros)
        refine gA ?_
        refine gA ?_
        (refine gE env hN (by kernel_rfl) ?_; conv => whnf)
        (refine gGs ?_; intros)
        (refine gPC (spL) ?_; conv => whnf)
        (refine gGs ?_; intros)
        refine gD rfl ?_
        refine gF ?_
        conv => whnf
        refine W.cut (fun z => z = ⟨[(0, .sl (intRows .i64 l) false), (3, .int .i64 key), (4, .int .i64 what), (6, .ro x.row 0), (7, .ro y.row 0)], [], []⟩) ?_ ?_
        · refine gA ?_
          (refine gE env hN (by kernel_rfl) ?_; conv => whnf)
          (refine gGl ?_; intros)
          refine And.intro (colRows_sz _) ?_
          rw [hdt]
          conv => whnf
          refine ⟨rfl, ?_⟩
          conv => whnf
          (refine gGl ?_; intros)
          by_cases hy0 : y.cols = []
          · refine Or.inl ⟨⟨by show colRows y.cols = []; rw [hy0]; rfl, colRows_sz _⟩, ?_⟩
            conv => whnf
            (refine gGo ?_; intros)
            have hzl := colRows_len (x.cols)
            refine W.loopG (fun m st => ∃ j : Nat, j ≤ (x.cols).length ∧ m = (x.cols).length - j ∧ st = ⟨[(0, .sl (intRows .i64 l) false), (3, .int .i64 key), (4, .int .i64 what), (6, .ro x.row 0), (7, .ro y.row 0), (53, .sl (colRows (x.cols)) true), (54, .int .i64 (colRows (x.cols)).length), (55, .int .i64 (j : Nat))], [], []⟩)
              (x.cols).length _ ⟨0, by omega, by omega, rfl⟩ ⟨[], [], [], .mq .nil⟩ ?_
            rintro m st ⟨j, hj, rfl, rfl⟩
            (refine gGo ?_; intros)
            refine boolRes_split (fun hb => ?_) (fun hb => ?_) <;> conv => whnf
            · have hlt : j < (x.cols).length := by omega
              have hg := colRows_get hlt
              generalize (x.cols)[j] = c at *
              have hcc := cellRows_len c.cells
              (refine gGo ?_; intros)
              refine rowAt_of (by simpa using hg) ?_
              conv => whnf
              (refine gGo ?_; intros)
              by_cases h12 : c.cells.length ≤ 12
              · (refine gGo ?_; intros)
                refine ⟨_, _, ?_, ⟨j + 1, by omega, rfl, rfl⟩, [], [], [], LeG.mq .nil⟩
                omega
              · (refine gGo ?_; intros)
                (refine gPC (spA) ?_; conv => whnf)
                (refine gGr ?_; intros)
                exact ret0 rfl rfl rfl
            · (refine gGo ?_; intros)
              exact ⟨_, rfl, .le (mp := []) (bo := []) (LeG.mq .nil)⟩
          · have hyp : 0 < y.cols.length := List.length_pos_iff.2 hy0
            refine Or.inr ⟨⟨colRows_sz _, colRows_sz _, fun h => ?_⟩, fitN (b := 40) (n := (colRows x.cols).length + (colRows y.cols).length) (by omega) (by omega), ?_⟩
            · exfalso
              have h : colRows y.cols = [] := h
              rw [h] at hcly
              simp at hcly; omega
            refine Or.inr ⟨⟨rfl, List.length_append.symm, List.length_append.symm, by show pureB (colRows x.cols ++ colRows y.cols) = true; rw [happ]; exact pure_cols _⟩, ?_⟩
            rw [happ]
            conv => whnf
            (refine gGo ?_; intros)
            have hzl := colRows_len (x.cols ++ y.cols)
            refine W.loopG (fun m st => ∃ j : Nat, j ≤ (x.cols ++ y.cols).length ∧ m = (x.cols ++ y.cols).length - j ∧ st = ⟨[(0, .sl (intRows .i64 l) false), (3, .int .i64 key), (4, .int .i64 what), (6, .ro x.row 0), (7, .ro y.row 0), (53, .sl (colRows (x.cols ++ y.cols)) false), (54, .int .i64 (colRows (x.cols ++ y.cols)).length), (55, .int .i64 (j : Nat))], [], []⟩)
              (x.cols ++ y.cols).length _ ⟨0, by omega, by omega, rfl⟩ ⟨[], [], [], .mq .nil⟩ ?_
            rintro m st ⟨j, hj, rfl, rfl⟩
            (refine gGo ?_; intros)
            refine boolRes_split (fun hb => ?_) (fun hb => ?_) <;> conv => whnf
            · have hlt : j < (x.cols ++ y.cols).length := by omega
              have hg := colRows_get hlt
              generalize (x.cols ++ y.cols)[j] = c at *
              have hcc := cellRows_len c.cells
              (refine gGo ?_; intros)
              refine rowAt_of (by simpa using hg) ?_
              conv => whnf
              (refine gGo ?_; intros)
              by_cases h12 : c.cells.length ≤ 12
              · (refine gGo ?_; intros)
                refine ⟨_, _, ?_, ⟨j + 1, by omega, rfl, rfl⟩, [], [], [], LeG.mq .nil⟩
                omega
              · (refine gGo ?_; intros)
                (refine gPC (spA) ?_; conv => whnf)
                (refine gGr ?_; intros)
                exact ret0 rfl rfl rfl
            · (refine gGo ?_; intros)
              exact ⟨_, rfl, .le (mp := []) (bo := []) (LeG.mq .nil)⟩
        · rintro z rfl
          have hq1 := keyF_ok l 1 0 (by omega)
          have spk1 := keyed_own l 1 0 (by omega)
          obtain ⟨d0, d1, ha⟩ := keyF_two l 1 0
          rw [ha] at spk1
          have spk2 := keyed_own l 2 (keyF l 1 0).2 hq1
          have hq2 := keyF_ok l 2 (keyF l 1 0).2 hq1
          obtain ⟨c0, c1, hb⟩ := keyF_two l 2 (keyF l 1 0).2
          rw [hb] at spk2
          generalize (keyF l 2 (keyF l 1 0).2).2 = q2 at *
          generalize (keyF l 1 0).2 = q1 at *
          have spM := mod_spec what 7 (by omega)
          obtain ⟨hw0, hw7⟩ := modK_range (n := what) (m := 7)
          have hw7 := hw7 (by omega)
          generalize modK what 7 = w at *
          have hpu1 : ((colRows [d0, d1]).all fun r => r.all fun v => v.sites.isEmpty) = true := rfl
          have hpu : ((colRows [c0, c1]).all fun r => r.all fun v => v.sites.isEmpty) = true := rfl
          refine gA ?_
          (refine gE env hN (by kernel_rfl) ?_; conv => whnf)
          (refine gGs ?_; intros)
          (refine gCA [] [(5, 70)] [] (roll_spec l) ?_; conv => whnf)
          (refine gGs ?_; intros)
          refine gA ?_
          (refine gE env hN (by kernel_rfl) ?_; conv => whnf)
          (refine gGs ?_; intros)
          (refine gCA [(0, 70)] [(11, 310)] [] (spk1) ?_; conv => whnf)
          (refine gGs ?_; intros)
          (refine gCA [(0, 70)] [(11, 300)] [] (spk2) ?_; conv => whnf)
          (refine gGs ?_; intros)
          refine W.leG (mp := [(70, 70), (14, 14), (15, 15), (300, 300)]) (bo := [310]) (st' := ⟨[(3, .int .i64 key), (4, .int .i64 what), (6, .ro x.row 0), (7, .ro y.row 0), (13, .bp 70 0), (14, .bp 14 0), (15, .bp 15 0)], [(70, [diceB l q2]), (14, [.rows 3 [(Table.mk 1 [] [d0, d1]).row] none]), (15, [.rows 3 [[.int .i64 2, .str [], .osl 300 0 0 2 2]] none]), (300, [.rows 2 (colRows [c0, c1]) none])], [70, 14, 15, 300]⟩)
            (LeG.mq (.ci 70 (.cons 14 (b1 := .rows 3 [(Table.mk 1 [] [d0, d1]).row] none) rfl rfl (.rows _ _ _ ⟨⟨⟨.refl _, rfl⟩, ⟨.refl _, rfl⟩, ⟨Lent.whole rfl rfl rfl rfl (.inr hpu1), rfl⟩, trivial⟩, trivial⟩) rfl (.ci 15 (.ci 300 .nil))))) ?_
          refine W.cut (fun z => ∃ A B : Table, z = ⟨[(3, .int .i64 key), (14, .ro A.row 0), (15, .ro B.row 0)], [], []⟩) ?_ ?_
          · have hw : w = 0 ∨ w = 1 ∨ w = 2 ∨ w = 3 ∨ w = 4 ∨ w = 5 ∨ w = 6 := by omega
            rcases hw with rfl | rfl | rfl | rfl | rfl | rfl | rfl
            · refine W.leG (mp := [(70, 70), (14, 14), (15, 15)]) (bo := [300]) (st' := ⟨[(3, .int .i64 key), (4, .int .i64 what), (6, .ro x.row 0), (7, .ro y.row 0), (13, .bp 70 0), (14, .bp 14 0), (15, .bp 15 0)], [(70, [diceB l q2]), (14, [.rows 3 [(Table.mk 1 [] [d0, d1]).row] none]), (15, [.rows 3 [(Table.mk 2 [] [c0, c1]).row] none])], [70, 14, 15]⟩)
                (LeG.mq (.ci 70 (.ci 14 (.cons 15 (b1 := .rows 3 [(Table.mk 2 [] [c0, c1]).row] none) rfl rfl (.rows _ _ _ ⟨⟨⟨.refl _, rfl⟩, ⟨.refl _, rfl⟩, ⟨Lent.whole rfl rfl rfl rfl (.inr hpu), rfl⟩, trivial⟩, trivial⟩) rfl .nil)))) ?_
              (refine gGo ?_; intros)
              (refine gPC (spM) ?_; conv => whnf)
              (refine gGo ?_; intros)
              exact ⟨_, ⟨x, (Table.mk 2 [] [c0, c1]), rfl⟩, .le (mp := []) (bo := [14, 15]) (LeG.mk' rfl rfl rfl ⟨⟨_, .refl _, rfl⟩, ⟨_, .bp 14 0 3 (Table.row (x)) none rfl rfl (by simp) (.inr rfl), rfl⟩, ⟨_, .bp 15 0 3 (Table.row ((Table.mk 2 [] [c0, c1]))) none rfl rfl (by simp) (.inr rfl), rfl⟩, trivial⟩ .nil rfl rfl (by rw [hK]; rfl))⟩
            · (refine gGo ?_; intros)
              (refine gPC (spM) ?_; conv => whnf)
              (refine gGo ?_; intros)
              refine ⟨_, ⟨Table.mk 1 [] [d0, d1], Table.mk 2 [] [⟨[119], c0.cells⟩, c1], rfl⟩, Ref.trans (s' := ⟨[(3, .int .i64 key), (14, .bp 14 0), (15, .bp 15 0)], [(14, [.rows 3 [(Table.mk 1 [] [d0, d1]).row] none]), (15, [.rows 3 [(Table.mk 2 [] [⟨[119], c0.cells⟩, c1]).row] none])], [14, 15]⟩)
                (.le (mp := [(14, 14), (15, 15)]) (bo := [300]) (LeG.mq (.ci 14 (.cons 15 (b1 := .rows 3 [(Table.mk 2 [] [⟨[119], c0.cells⟩, c1]).row] none) rfl rfl (.rows _ _ _ ⟨⟨⟨.refl _, rfl⟩, ⟨.refl _, rfl⟩, ⟨Lent.whole rfl rfl rfl rfl (.inr rfl), rfl⟩, trivial⟩, trivial⟩) rfl .nil))))
                (.le (mp := []) (bo := [14, 15]) (LeG.mk' rfl rfl rfl ⟨⟨_, .refl _, rfl⟩, ⟨_, .bp 14 0 3 (Table.row (Table.mk 1 [] [d0, d1])) none rfl rfl (by simp) (.inr rfl), rfl⟩, ⟨_, .bp 15 0 3 (Table.row (Table.mk 2 [] [⟨[119], c0.cells⟩, c1])) none rfl rfl (by simp) (.inr rfl), rfl⟩, trivial⟩ .nil rfl rfl (by rw [hK]; rfl)))⟩
            · refine W.leG (mp := [(70, 70), (14, 14), (15, 15)]) (bo := [300]) (st' := ⟨[(3, .int .i64 key), (4, .int .i64 what), (6, .ro x.row 0), (7, .ro y.row 0), (13, .bp 70 0), (14, .bp 14 0), (15, .bp 15 0)], [(70, [diceB l q2]), (14, [.rows 3 [(Table.mk 1 [] [d0, d1]).row] none]), (15, [.rows 3 [(Table.mk 2 [] [c0, c1]).row] none])], [70, 14, 15]⟩)
                (LeG.mq (.ci 70 (.ci 14 (.cons 15 (b1 := .rows 3 [(Table.mk 2 [] [c0, c1]).row] none) rfl rfl (.rows _ _ _ ⟨⟨⟨.refl _, rfl⟩, ⟨.refl _, rfl⟩, ⟨Lent.whole rfl rfl rfl rfl (.inr hpu), rfl⟩, trivial⟩, trivial⟩) rfl .nil)))) ?_
              (refine gGo ?_; intros)
              (refine gPC (spM) ?_; conv => whnf)
              (refine gGo ?_; intros)
              exact ⟨_, ⟨(Table.mk 1 [] [d0, d1]), y, rfl⟩, .le (mp := []) (bo := [14, 15]) (LeG.mk' rfl rfl rfl ⟨⟨_, .refl _, rfl⟩, ⟨_, .bp 14 0 3 (Table.row ((Table.mk 1 [] [d0, d1]))) none rfl rfl (by simp) (.inr rfl), rfl⟩, ⟨_, .bp 15 0 3 (Table.row (y)) none rfl rfl (by simp) (.inr rfl), rfl⟩, trivial⟩ .nil rfl rfl (by rw [hK]; rfl))⟩
            · refine W.leG (mp := [(70, 70), (14, 14), (15, 15)]) (bo := [300]) (st' := ⟨[(3, .int .i64 key), (4, .int .i64 what), (6, .ro x.row 0), (7, .ro y.row 0), (13, .bp 70 0), (14, .bp 14 0), (15, .bp 15 0)], [(70, [diceB l q2]), (14, [.rows 3 [(Table.mk 1 [] [d0, d1]).row] none]), (15, [.rows 3 [(Table.mk 2 [] [c0, c1]).row] none])], [70, 14, 15]⟩)
                (LeG.mq (.ci 70 (.ci 14 (.cons 15 (b1 := .rows 3 [(Table.mk 2 [] [c0, c1]).row] none) rfl rfl (.rows _ _ _ ⟨⟨⟨.refl _, rfl⟩, ⟨.refl _, rfl⟩, ⟨Lent.whole rfl rfl rfl rfl (.inr hpu), rfl⟩, trivial⟩, trivial⟩) rfl .nil)))) ?_
              have spT := table_spec l 1 q2 hq2
              obtain ⟨gT, _, hq3⟩ := tblF_ok (l := l) (id := 1) hq2
              have spD := derived_spec l (tblF l 1 q2).2 (tblF l 1 q2).1 2 hq3 (good_less gT)
              generalize tblF l 1 q2 = T at *
              generalize derF l T.2 T.1 2 = D at *
              (refine gGo ?_; intros)
              (refine gPC (spM) ?_; conv => whnf)
              (refine gGo ?_; intros)
              (refine ⟨_, _, _, callG [(0, 70)] [] [] rfl rfl rfl (by kernel_rfl) (spT) (by repeat' (first | exact trivial | exact Lent.refl _ | exact Lent.norm _ | exact Lent.whole rfl rfl (by first | rfl | exact List.length_append.symm | exact hlenR | simp) rfl (by first | exact .inl rfl | exact .inr rfl) | apply And.intro)) rfl ⟨rfl, rfl, rfl, rfl, rfl, by repeat' (first | exact trivial | rfl | apply And.intro), rfl, rfl⟩, ?_⟩; conv => whnf)
              (refine gGo ?_; intros)
              (refine ⟨_, _, _, callG [(0, 70)] [] [] rfl rfl rfl (by kernel_rfl) (spD) (by repeat' (first | exact trivial | exact Lent.refl _ | exact Lent.norm _ | exact Lent.whole rfl rfl (by first | rfl | exact List.length_append.symm | exact hlenR | simp) rfl (by first | exact .inl rfl | exact .inr rfl) | apply And.intro)) rfl ⟨rfl, rfl, rfl, rfl, rfl, by repeat' (first | exact trivial | rfl | apply And.intro), rfl, rfl⟩, ?_⟩; conv => whnf)
              (refine gGo ?_; intros)
              exact ⟨_, ⟨T.1, D.1, rfl⟩, .le (mp := []) (bo := [14, 15]) (LeG.mk' rfl rfl rfl ⟨⟨_, .refl _, rfl⟩, ⟨_, .bp 14 0 3 (Table.row (T.1)) none rfl rfl (by simp) (.inr rfl), rfl⟩, ⟨_, .bp 15 0 3 (Table.row (D.1)) none rfl rfl (by simp) (.inr rfl), rfl⟩, trivial⟩ .nil rfl rfl (by rw [hK]; rfl))⟩
            · refine W.leG (mp := [(70, 70), (14, 14), (15, 15)]) (bo := [300]) (st' := ⟨[(3, .int .i64 key), (4, .int .i64 what), (6, .ro x.row 0), (7, .ro y.row 0), (13, .bp 70 0), (14, .bp 14 0), (15, .bp 15 0)], [(70, [diceB l q2]), (14, [.rows 3 [(Table.mk 1 [] [d0, d1]).row] none]), (15, [.rows 3 [(Table.mk 2 [] [c0, c1]).row] none])], [70, 14, 15]⟩)
                (LeG.mq (.ci 70 (.ci 14 (.cons 15 (b1 := .rows 3 [(Table.mk 2 [] [c0, c1]).row] none) rfl rfl (.rows _ _ _ ⟨⟨⟨.refl _, rfl⟩, ⟨.refl _, rfl⟩, ⟨Lent.whole rfl rfl rfl rfl (.inr hpu), rfl⟩, trivial⟩, trivial⟩) rfl .nil)))) ?_
              (refine gGo ?_; intros)
              (refine gPC (spM) ?_; conv => whnf)
              (refine gGo ?_; intros)
              refine And.intro ⟨by decide, by decide, by simp [colRows]⟩ ?_
              conv => whnf
              refine And.intro (colRows_sz _) ?_
              conv => whnf
              (refine gGo ?_; intros)
              exact ⟨_, ⟨(Table.mk 1 [] [d0, d1]), (Table.mk 2 [] [c0]), rfl⟩, .le (mp := []) (bo := [14, 15]) (LeG.mk' rfl rfl rfl ⟨⟨_, .refl _, rfl⟩, ⟨_, .bp 14 0 3 (Table.row ((Table.mk 1 [] [d0, d1]))) none rfl rfl (by simp) (.inr rfl), rfl⟩, ⟨_, .bp 15 0 3 (Table.row ((Table.mk 2 [] [c0]))) none rfl rfl (by simp) (.inr rfl), rfl⟩, trivial⟩ .nil rfl rfl (by rw [hK]; rfl))⟩
            · refine W.leG (mp := [(70, 70), (14, 14), (15, 15)]) (bo := [300]) (st' := ⟨[(3, .int .i64 key), (4, .int .i64 what), (6, .ro x.row 0), (7, .ro y.row 0), (13, .bp 70 0), (14, .bp 14 0), (15, .bp 15 0)], [(70, [diceB l q2]), (14, [.rows 3 [(Table.mk 1 [] [d0, d1]).row] none]), (15, [.rows 3 [(Table.mk 2 [] [c0, c1]).row] none])], [70, 14, 15]⟩)
                (LeG.mq (.ci 70 (.ci 14 (.cons 15 (b1 := .rows 3 [(Table.mk 2 [] [c0, c1]).row] none) rfl rfl (.rows _ _ _ ⟨⟨⟨.refl _, rfl⟩, ⟨.refl _, rfl⟩, ⟨Lent.whole rfl rfl rfl rfl (.inr hpu), rfl⟩, trivial⟩, trivial⟩) rfl .nil)))) ?_
              (refine gGo ?_; intros)
              (refine gPC (spM) ?_; conv => whnf)
              (refine gGo ?_; intros)
              exact ⟨_, ⟨(Table.mk 1 [] [d0, d1]), (Table.mk 2 [] [c0, c1]), rfl⟩, .le (mp := []) (bo := [14, 15]) (LeG.mk' rfl rfl rfl ⟨⟨_, .refl _, rfl⟩, ⟨_, .bp 14 0 3 (Table.row ((Table.mk 1 [] [d0, d1]))) none rfl rfl (by simp) (.inr rfl), rfl⟩, ⟨_, .bp 15 0 3 (Table.row ((Table.mk 2 [] [c0, c1]))) none rfl rfl (by simp) (.inr rfl), rfl⟩, trivial⟩ .nil rfl rfl (by rw [hK]; rfl))⟩
            · refine W.leG (mp := [(70, 70), (14, 14), (15, 15)]) (bo := [300]) (st' := ⟨[(3, .int .i64 key), (4, .int .i64 what), (6, .ro x.row 0), (7, .ro y.row 0), (13, .bp 70 0), (14, .bp 14 0), (15, .bp 15 0)], [(70, [diceB l q2]), (14, [.rows 3 [(Table.mk 1 [] [d0, d1]).row] none]), (15, [.rows 3 [(Table.mk 2 [] [c0, c1]).row] none])], [70, 14, 15]⟩)
                (LeG.mq (.ci 70 (.ci 14 (.cons 15 (b1 := .rows 3 [(Table.mk 2 [] [c0, c1]).row] none) rfl rfl (.rows _ _ _ ⟨⟨⟨.refl _, rfl⟩, ⟨.refl _, rfl⟩, ⟨Lent.whole rfl rfl rfl rfl (.inr hpu), rfl⟩, trivial⟩, trivial⟩) rfl .nil)))) ?_
              (refine gGo ?_; intros)
              (refine gPC (spM) ?_; conv => whnf)
              (refine gGo ?_; intros)
              exact ⟨_, ⟨(Table.mk 1 [] [d0, d1]), (Table.mk 2 [] [c0, c1]), rfl⟩, .le (mp := []) (bo := [14, 15]) (LeG.mk' rfl rfl rfl ⟨⟨_, .refl _, rfl⟩, ⟨_, .bp 14 0 3 (Table.row ((Table.mk 1 [] [d0, d1]))) none rfl rfl (by simp) (.inr rfl), rfl⟩, ⟨_, .bp 15 0 3 (Table.row ((Table.mk 2 [] [c0, c1]))) none rfl rfl (by simp) (.inr rfl), rfl⟩, trivial⟩ .nil rfl rfl (by rw [hK]; rfl))⟩
          · rintro z ⟨A, B, rfl⟩
            have spM4 := mod_spec key 4 (by omega)
            obtain ⟨ks, hks⟩ : ∃ ks : List Int, ks = [key, modK key 4 - 1, 1] := ⟨_, rfl⟩
            have hk4 := modK_range (n := key) (m := 4)
            generalize modK key 4 = m4 at *
            have hkl : ks.length = 3 := by rw [hks]; rfl
            have hil := intRows_len .i64 ks
            have sK1 := keys_spec A
            have sK2 := keys37_spec A
            have sK3 := keys_spec B
            have sK4 := keys37_spec B
            have sI1 := ints37_spec (keysM A) (keysM A)
            have sI2 := ints37_spec (keysM B) (keysM B)
            rw [decide_eq_true rfl] at sI1 sI2
            (refine gGo ?_; intros)
            (refine gPC (spM4) ?_; conv => whnf)
            (refine gGo ?_; intros)
            refine W.loopG (fun m st => ∃ j : Nat, j ≤ 3 ∧ m = 3 - j ∧ st = ⟨[(14, .ro A.row 0), (15, .ro B.row 0), (102, .sl (intRows .i64 ks) false), (103, .int .i64 (intRows .i64 ks).length), (104, .int .i64 (j : Nat))], [], []⟩) 3 _ ⟨0, by omega, by omega, rfl⟩ ⟨[], [], [], LeG.mk' rfl rfl rfl (by rw [hks]; exact (by repeat' (first | exact trivial | exact ⟨_, .refl _, rfl⟩ | apply And.intro))) .nil rfl rfl (by rw [hK]; rfl)⟩ ?_
            rintro m st ⟨j, hj, rfl, rfl⟩
            (refine gGo ?_; intros)
            refine boolRes_split (fun hb => ?_) (fun hb => ?_) <;> conv => whnf
            · have hjl : j < ks.length := by omega
              have hg := intRows_get (k := .i64) hjl
              generalize ks[j] = k at *
              have s1 := of_spec A B k
              have s2 := of37_spec A B k
              have s3 := sorted1_spec A k
              have s4 := sorted37_spec A k
              have s5 := same37_spec (ofM A B k).1 (ofM A B k).1
              have s6 := same3_spec (sortedM A k).1 (sortedM A k).1
              rw [decide_eq_true rfl] at s5 s6
              generalize ofM A B k = D at *
              generalize sortedM A k = S at *
              (refine gGo ?_; intros)
              refine rowAt_of (by simpa using hg) ?_
              conv => whnf
              (refine gGo ?_; intros)
              (refine gPC (s1) ?_; conv => whnf)
              (refine gGo ?_; intros)
              (refine gPC (s2) ?_; conv => whnf)
              (refine gGo ?_; intros)
              (refine gPC (s3) ?_; conv => whnf)
              (refine gGo ?_; intros)
              (refine gPC (s4) ?_; conv => whnf)
              (refine gGo ?_; intros)
              (refine gPC (s5) ?_; conv => whnf)
              (refine gGo ?_; intros)
              (refine gPC (s6) ?_; conv => whnf)
              (refine gGo ?_; intros)
              refine ⟨_, _, ?_, ⟨j + 1, by omega, rfl, rfl⟩, [], [], [], LeG.mq .nil⟩
              omega
            · (refine gGo ?_; intros)
              (refine gPC (sK1) ?_; conv => whnf)
              (refine gGo ?_; intros)
              (refine gPC (sK2) ?_; conv => whnf)
              (refine gGo ?_; intros)
              (refine gPC (sI1) ?_; conv => whnf)
              (refine gGo ?_; intros)
              (refine gPC (sK3) ?_; conv => whnf)
              (refine gGo ?_; intros)
              (refine gPC (sK4) ?_; conv => whnf)
              (refine gGo ?_; intros)
              (refine gPC (sI2) ?_; conv => whnf)
              (refine gGo ?_; intros)
              (refine gPC (spA) ?_; conv => whnf)
              (refine gGr ?_; intros)
              exact ret0 rfl rfl rfl
      · (refine gGo ?_; intros)
        (refine gPC (spL) ?_; conv => whnf)
        (refine gGo ?_; intros)
        (refine gPC (spA) ?_; conv => whnf)
        (refine gGr ?_; intros)
        exact ret0 rfl rfl rfl
    · (refine gGo ?_; intros)
      (refine gPC (spL) ?_; conv => whnf)
      (refine gGo ?_; intros)
      (refine gPC (spA) ?_; conv => whnf)
      (refine gGr ?_; intros)
      exact ret0 rfl rfl rfl
  · rw [decide_eq_false hll] at spL
    (refine gGo ?_; intros)
    (refine gPC (spL) ?_; conv => whnf)
    (refine gGo ?_; intros)
    (refine gPC (spA) ?_; conv => whnf)
    (refine gGr ?_; intros)
    exact ret0 rfl rfl rfl
end Go.Sx.Sp
namespace Go.Sx.Sp
open Go Go.Sx Go.Proofs
attribute [local irreducible] GoodW
theorem wf_cells {n : Nat} {rows : List (List V)} (hs : ∀ r ∈ rows, shape T (n + 2) 50 r) : ∃ l : List Cell, rows = cellRows l := by
  obtain ⟨l, h, _⟩ := rows_map (f := Cell.row) (p := fun _ => True) (rows := rows) fun r hr => by
    obtain ⟨a, b, rfl, ha, c, d, rfl, hc, rfl⟩ := shape_st (T := T) (t := 50) rfl (hs r hr)
    obtain ⟨x, rfl⟩ := shape_bool (T := T) (t := 4) rfl ha
    obtain ⟨y, rfl, _⟩ := shape_str (T := T) (t := 9) rfl hc
    exact ⟨⟨x, y⟩, rfl, trivial⟩
  exact ⟨l, h⟩
theorem wf_cols {n : Nat} {rows : List (List V)} (hs : ∀ r ∈ rows, shape T (n + 4) 30 r) : ∃ l : List Column, rows = colRows l := by
  obtain ⟨l, h, _⟩ := rows_map (f := Column.row) (p := fun _ => True) (rows := rows) fun r hr => by
    obtain ⟨a, b, rfl, ha, c, d, rfl, hc, rfl⟩ := shape_st (T := T) (t := 30) rfl (hs r hr)
    obtain ⟨x, rfl, _⟩ := shape_str (T := T) (t := 9) rfl ha
    obtain ⟨q, rfl, _, hq⟩ := shape_sl (T := T) (t := 28) rfl hc
    obtain ⟨l, rfl⟩ := wf_cells hq
    exact ⟨⟨x, l⟩, rfl, trivial⟩
  exact ⟨l, h⟩
theorem arg_table {n : Nat} {u : V} (hs : argShape T (n + 6) 25 u) : ∃ t : Table, u = .agg t.row := by
  obtain ⟨vs, rfl, h⟩ := argShape_agg (T := T) (t := 25) rfl rfl hs
  obtain ⟨a, b, rfl, ha, c, d, rfl, hc, e, f, rfl, he, rfl⟩ := shape_st (T := T) (t := 25) rfl h
  obtain ⟨x, rfl, _⟩ := shape_int (T := T) (t := 3) rfl ha
  obtain ⟨y, rfl, _⟩ := shape_str (T := T) (t := 9) rfl hc
  obtain ⟨q, rfl, _, hq⟩ := shape_sl (T := T) (t := 23) rfl he
  obtain ⟨l, rfl⟩ := wf_cols hq
  exact ⟨⟨x, y, l⟩, rfl⟩
theorem of_calls {w : World} {v0 v1 v2 v3 v4 : Value} {u0 u1 u2 u3 u4 : V} (r0 : VRel w (fun _ => False) (fun _ _ => none) u0 v0) (r1 : VRel w (fun _ => False) (fun _ _ => none) u1 v1) (r2 : VRel w (fun _ => False) (fun _ _ => none) u2 v2) (r3 : VRel w (fun _ => False) (fun _ _ => none) u3 v3) (r4 : VRel w (fun _ => False) (fun _ _ => none) u4 v4)
    (a0 : argShape T 2 22 u0) (a1 : argShape T 6 25 u1) (a2 : argShape T 6 25 u2) (a3 : argShape T 1 3 u3) (a4 : argShape T 1 3 u4) (hg : GRel w (fun _ => False)) :
    Calls Tryz.prog 3 #[v0, v1, v2, v3, v4] w fun e w' => e = .returned (.bool true) ∧ Go.RowKit.Below w.heap.size w w' := by
  obtain ⟨l, rfl⟩ := arg_ints a0
  obtain ⟨tx, rfl⟩ := arg_table (n := 0) a1
  obtain ⟨ty, rfl⟩ := arg_table (n := 0) a2
  obtain ⟨x, rfl, _⟩ := arg_int (n := 0) a3
  obtain ⟨y, rfl, _⟩ := arg_int (n := 0) a4
  refine Spec.law (of_law l tx ty x y) (cargs := [v0, v1, v2, v3, v4]) rfl (fun j u c hj hc => ?_) rfl hg
  match j with
  | 0 => cases hj; cases hc; exact r0
  | 1 => cases hj; cases hc; exact r1
  | 2 => cases hj; cases hc; exact r2
  | 3 => cases hj; cases hc; exact r3
  | 4 => cases hj; cases hc; exact r4
  | j + 5 => cases hj
end Go.Sx.Sp
