/- Contracts of drawn tables and of valid tables. -/
import Derived.Test.YtoelhfbammpjeaaGreatDoorSpOne
import Derived.Lib.ValidLaws
import Derived.Test.YtoelhfbammpjeaaGreatDoorSxFour
import Derived.Test.YtoelhfbammpjeaaGreatDoorSxTwo
set_option linter.unusedVariables false
set_option linter.unusedSimpArgs false
namespace Go.Sx.Sp
open Go Go.Sx Go.Proofs
attribute [local irreducible] GoodW
abbrev Str := List UInt8
structure Cell where
  null : Bool
  text : Str
  deriving DecidableEq
structure Column where
  name : Str
  cells : List Cell
  deriving DecidableEq
structure Table where
  id : Int
  name : Str
  cols : List Column
  deriving DecidableEq
def Cell.row (c : Cell) : List V := [.bool c.null, .str c.text]
def cellRows (l : List Cell) : List (List V) := l.map Cell.row
def Column.row (c : Column) : List V := [.str c.name, .sl (cellRows c.cells) false]
def colRows (l : List Column) : List (List V) := l.map Column.row
def Table.row (t : Table) : List V := [.int .i64 t.id, .str t.name, .sl (colRows t.cols) false]
def strRows (l : List Str) : List (List V) := l.map fun s => [.str s]
theorem cellRows_len (l : List Cell) : (cellRows l).length = l.length := by simp [cellRows]
theorem colRows_len (l : List Column) : (colRows l).length = l.length := by simp [colRows]
theorem strRows_len (l : List Str) : (strRows l).length = l.length := by simp [strRows]
theorem intRows_len (k : IntKind) (l : List Int) : (intRows k l).length = l.length := by simp [intRows]
theorem cellRows_get {l : List Cell} {i : Nat} (h : i < l.length) : (cellRows l)[i]? = some l[i].row := by simp [cellRows, h]
theorem colRows_get {l : List Column} {i : Nat} (h : i < l.length) : (colRows l)[i]? = some l[i].row := by simp [colRows, h]
theorem strRows_get {l : List Str} {i : Nat} (h : i < l.length) : (strRows l)[i]? = some [.str l[i]] := by simp [strRows, h]
theorem intRows_get {k : IntKind} {l : List Int} {i : Nat} (h : i < l.length) : (intRows k l)[i]? = some [.int k l[i]] := by simp [intRows, h]
def modK (n m : Int) : Int := if m < 1 then 0 else n % m
def diceB (l : List Int) (p : Nat) : Blk := .rows 2 [[.sl (intRows .i64 l) false, .int .i64 p]] none
def nextV (l : List Int) (p : Nat) (n : Int) : Int := match l[p]? with | some x => modK x n | none => 0
def nextP (l : List Int) (p : Nat) : Nat := match l[p]? with | some _ => p + 1 | none => p
theorem modK_range {n m : Int} : 0 ≤ modK n m ∧ (1 ≤ m → modK n m < m) := by
  unfold modK
  split
  · exact ⟨by omega, fun h => by omega⟩
  · exact ⟨Int.emod_nonneg _ (by omega), fun h => Int.emod_lt_of_pos _ (by omega)⟩
theorem nextV_range (l : List Int) (p : Nat) {n : Int} (hn : 1 ≤ n) : 0 ≤ nextV l p n ∧ nextV l p n < n := by
  unfold nextV
  split
  · exact ⟨modK_range.1, modK_range.2 hn⟩
  · exact ⟨by omega, by omega⟩
theorem nextP_le {l : List Int} {p : Nat} (hp : p ≤ l.length) : nextP l p ≤ l.length := by
  unfold nextP
  split
  · rename_i h; have := (List.getElem?_eq_some_iff.1 h).1; omega
  · exact hp
set_option maxHeartbeats 1000000 in
theorem mod_spec (n m : Int) (hm : m ≤ 4611686018427387904) : Spec Tryz.prog 9 [.int .i64 n, .int .i64 m] [] (.int .i64 (modK n m)) [] := by
  refine gEn env Tryz.func9 fun Γ hN hK hML => ?_
  (refine gGo ?_; intros)
  refine boolRes_split (fun hb => ?_) (fun hb => ?_) <;> conv => whnf
  · (refine gGr ?_; intros)
    exact ret0 rfl (congrArg (V.int .i64) (by simp [modK, hb])) rfl
  · have h1 : -m < n.tmod m := by have := Int.lt_tmod_of_pos n (show 0 < m by omega); omega
    have h2 : n.tmod m < m := Int.tmod_lt_of_pos n (by omega)
    have h3 : (n.tmod m + m).tmod m = n % m := by
      rw [Int.tmod_eq_emod_of_nonneg (by omega), Int.add_emod_right, Int.tmod_eq_emod]
      split
      · simp
      · rw [show ((m.natAbs : Nat) : Int) = m by omega]; rw [Int.sub_emod_right, Int.emod_emod]
    (refine gGr ?_; intros)
    exact ret0 rfl (congrArg (V.int .i64) (by simp [modK, hb]; exact h3)) rfl
set_option maxHeartbeats 1000000 in
theorem light_spec (l : List Int) : Spec Tryz.prog 5 [.sl (intRows .i64 l) false] [] (.bool (decide (l.length ≤ 500))) [] := by
  have hl := intRows_len .i64 l
  refine gEn env Tryz.func5 fun Γ hN hK hML => ?_
  (refine gGo ?_; intros)
  refine boolRes_keep ?_
  conv => whnf
  (refine gGr ?_; intros)
  exact ret0 rfl (congrArg V.bool (by simp; omega)) rfl
set_option maxHeartbeats 1000000 in
theorem roll_spec (l : List Int) : Spec Tryz.prog 7 [.sl (intRows .i64 l) false] [] (.bp 5 0) [(5, diceB l 0)] := by
  refine gEn env Tryz.func7 fun Γ hN hK hML => ?_
  (refine gGo ?_; intros)
  (refine gM ?_; conv => whnf)
  exact retH rfl (.refl _) rfl rfl rfl ⟨rfl, rfl, trivial⟩
set_option maxHeartbeats 2000000 in
theorem next_spec (l : List Int) (p : Nat) (n : Int) (hn : n ≤ 4611686018427387904) (hp : p ≤ l.length) : Spec Tryz.prog 24 [.bp 0 0, .int .i64 n] [(0, diceB l p)] (.int .i64 (nextV l p n)) [(0, diceB l (nextP l p))] := by
  have hl := intRows_len .i64 l
  refine gEn env Tryz.func24 fun Γ hN hK hML => ?_
  (refine gGo ?_; intros)
  refine boolRes_split (fun hb => ?_) (fun hb => ?_) <;> conv => whnf
  · have h0 : l[p]? = none := List.getElem?_eq_none (by omega)
    (refine gGo ?_; intros)
    (refine gM ?_; conv => whnf)
    have e1 : nextV l p n = 0 := by simp only [nextV, h0]
    have e2 : nextP l p = p := by simp only [nextP, h0]
    rw [e1, e2]
    exact retH rfl (.refl _) rfl rfl rfl ⟨rfl, rfl, trivial⟩
  · have hlt : p < l.length := by omega
    have h0 : l[p]? = some l[p] := List.getElem?_eq_getElem hlt
    have hx : (intRows .i64 l)[((p : Int) + 1 - 1).toNat]? = some [.int .i64 l[p]] := by
      rw [show ((p : Int) + 1 - 1).toNat = p by omega]; exact intRows_get hlt
    (refine gGo ?_; intros)
    refine rowAt_of hx ?_
    conv => whnf
    (refine gGo ?_; intros)
    (refine gPC (mod_spec l[p] n hn) ?_; conv => whnf)
    (refine gGo ?_; intros)
    (refine gM ?_; conv => whnf)
    have e1 : nextV l p n = modK l[p] n := by simp only [nextV, h0]
    have e2 : nextP l p = p + 1 := by simp only [nextP, h0]
    rw [e1, e2]
    exact retH rfl (.refl _) rfl rfl rfl ⟨rfl, rfl, trivial⟩
set_option maxHeartbeats 2000000 in
theorem word_spec (l : List Int) (p : Nat) (ws : List Str) (hw : ws ≠ []) (hn : ws.length ≤ 4611686018427387904) (hp : p ≤ l.length) : ∃ s, s ∈ ws ∧ Spec Tryz.prog 25 [.bp 0 0, .sl (strRows ws) false] [(0, diceB l p)] (.str s) [(0, diceB l (nextP l p))] := by
  have hwl := strRows_len ws
  have hpos : 0 < ws.length := List.length_pos_iff.2 hw
  have hr := nextV_range l p (n := (ws.length : Int)) (by omega)
  have sp := next_spec l p ws.length (by omega) hp
  obtain ⟨i, hi⟩ := Int.eq_ofNat_of_zero_le hr.1
  rw [hi] at sp hr
  have hlt : i < ws.length := by omega
  rw [← hwl] at sp
  refine ⟨ws[i], List.getElem_mem hlt, ?_⟩
  refine gEn env Tryz.func25 fun Γ hN hK hML => ?_
  (refine gGo ?_; intros)
  (refine gCA [(0, 0)] [] [] (sp) ?_; conv => whnf)
  (refine gGo ?_; intros)
  refine rowAt_of (strRows_get hlt) ?_
  conv => whnf
  (refine gGo ?_; intros)
  (refine gM ?_; conv => whnf)
  exact retH rfl (.refl _) rfl rfl rfl ⟨rfl, rfl, trivial⟩
end Go.Sx.Sp
namespace Go.Sx.Sp
open Go Go.Sx Go.Proofs
attribute [local irreducible] GoodW
def GoodText (s : Str) : Prop := s.length ≤ 100 ∧ ∀ b ∈ s, b.toNat < 128
structure GoodCell (c : Cell) : Prop where
  text : GoodText c.text
  null : c.null = true → c.text = []
def GoodTexts (ws : List Str) : Prop := ∀ s ∈ ws, GoodText s
instance (s : Str) : Decidable (GoodText s) := inferInstanceAs (Decidable (_ ∧ _))
instance (ws : List Str) : Decidable (GoodTexts ws) := inferInstanceAs (Decidable (∀ s ∈ ws, _))
theorem itoa_good {n : Int} (h : -3 ≤ n ∧ n ≤ 100) : GoodText (Lib.itoa n) ∧ (Lib.itoa n).length ≤ 10 := by
  have hk : ∀ k : Fin 104, GoodText (Lib.itoa ((k.val : Int) - 3)) ∧ (Lib.itoa ((k.val : Int) - 3)).length ≤ 10 := by decide +kernel
  have := hk ⟨(n + 3).toNat, by omega⟩
  simp only at this
  rwa [show (((n + 3).toNat : Nat) : Int) - 3 = n by omega] at this
def cellWords : List Str := [[97], [98], [99], [49], [50], [51], [49, 48], [120], [45, 49, 46, 53], [50]]
set_option maxHeartbeats 2000000 in
theorem cell_spec (l : List Int) (p : Nat) (hp : p ≤ l.length) : ∃ (c : Cell) (q : Nat), GoodCell c ∧ q ≤ l.length ∧ Spec Tryz.prog 57 [.bp 0 0] [(0, diceB l p)] (.agg c.row) [(0, diceB l q)] := by
  have hp1 := nextP_le hp
  have sp1 := next_spec l p 7 (by omega) hp
  have hw : GoodTexts cellWords := by decide +kernel
  obtain ⟨s, hs, sp2⟩ := word_spec l (nextP l p) cellWords (by decide) (by decide) hp1
  have hp2 := nextP_le hp1
  generalize nextV l p 7 = v at *
  by_cases hv : v = 1
  · refine ⟨⟨true, []⟩, nextP l p, ⟨by decide, fun _ => rfl⟩, hp1, ?_⟩
    refine gEn env Tryz.func57 fun Γ hN hK hML => ?_
    (refine gGo ?_; intros)
    (refine ⟨_, _, _, callG [(0, 0)] [] [] rfl rfl rfl (by kernel_rfl) (sp1) (by repeat' (first | exact trivial | exact Lent.refl _ | exact Lent.norm _ | exact Lent.whole rfl rfl (by first | rfl | exact List.length_append.symm | exact hlenR | simp) rfl (by first | exact .inl rfl | exact .inr rfl) | apply And.intro)) rfl ⟨rfl, rfl, rfl, rfl, rfl, by repeat' (first | exact trivial | rfl | apply And.intro), rfl, rfl⟩, ?_⟩; conv => whnf)
    (refine gGo ?_; intros)
    (refine gM ?_; conv => whnf)
    exact retH rfl (.refl _) rfl rfl rfl ⟨rfl, rfl, trivial⟩
  · refine ⟨⟨false, s⟩, nextP l (nextP l p), ⟨hw s hs, fun h => by cases h⟩, hp2, ?_⟩
    refine gEn env Tryz.func57 fun Γ hN hK hML => ?_
    (refine gGo ?_; intros)
    (refine ⟨_, _, _, callG [(0, 0)] [] [] rfl rfl rfl (by kernel_rfl) (sp1) (by repeat' (first | exact trivial | exact Lent.refl _ | exact Lent.norm _ | exact Lent.whole rfl rfl (by first | rfl | exact List.length_append.symm | exact hlenR | simp) rfl (by first | exact .inl rfl | exact .inr rfl) | apply And.intro)) rfl ⟨rfl, rfl, rfl, rfl, rfl, by repeat' (first | exact trivial | rfl | apply And.intro), rfl, rfl⟩, ?_⟩; conv => whnf)
    (refine gGo ?_; intros)
    (refine ⟨_, _, _, callG [(0, 0)] [] [] rfl rfl rfl (by kernel_rfl) (sp2) (by repeat' (first | exact trivial | exact Lent.refl _ | exact Lent.norm _ | exact Lent.whole rfl rfl (by first | rfl | exact List.length_append.symm | exact hlenR | simp) rfl (by first | exact .inl rfl | exact .inr rfl) | apply And.intro)) rfl ⟨rfl, rfl, rfl, rfl, rfl, by repeat' (first | exact trivial | rfl | apply And.intro), rfl, rfl⟩, ?_⟩; conv => whnf)
    (refine gGo ?_; intros)
    (refine gM ?_; conv => whnf)
    exact retH rfl (.refl _) rfl rfl rfl ⟨rfl, rfl, trivial⟩
def numWords : List Str := [[120], [], [49, 46, 50, 46, 51], [49, 46, 53, 48]]
set_option maxHeartbeats 2000000 in
theorem number_spec (l : List Int) (p : Nat) (hp : p ≤ l.length) : ∃ (c : Cell) (q : Nat), GoodCell c ∧ q ≤ l.length ∧ Spec Tryz.prog 58 [.bp 0 0] [(0, diceB l p)] (.agg c.row) [(0, diceB l q)] := by
  have hp1 := nextP_le hp
  have sp1 := next_spec l p 9 (by omega) hp
  have hw : GoodTexts numWords := by decide +kernel
  obtain ⟨s, hs, sp2⟩ := word_spec l (nextP l p) numWords (by decide) (by decide) hp1
  have sp3 := next_spec l (nextP l p) 12 (by omega) hp1
  have hr3 := nextV_range l (nextP l p) (n := 12) (by omega)
  have hp2 := nextP_le hp1
  generalize nextV l p 9 = v at *
  generalize nextV l (nextP l p) 12 = v3 at *
  obtain ⟨hi1, hi2⟩ := itoa_good (n := v3 - 3) (by omega)
  have sp4 := itoa_spec (v3 - 3) (by omega) (by omega) (by omega)
  by_cases hv : v = 1
  · refine ⟨⟨true, []⟩, nextP l p, ⟨by decide, fun _ => rfl⟩, hp1, ?_⟩
    refine gEn env Tryz.func58 fun Γ hN hK hML => ?_
    (refine gGo ?_; intros)
    (refine ⟨_, _, _, callG [(0, 0)] [] [] rfl rfl rfl (by kernel_rfl) (sp1) (by repeat' (first | exact trivial | exact Lent.refl _ | exact Lent.norm _ | exact Lent.whole rfl rfl (by first | rfl | exact List.length_append.symm | exact hlenR | simp) rfl (by first | exact .inl rfl | exact .inr rfl) | apply And.intro)) rfl ⟨rfl, rfl, rfl, rfl, rfl, by repeat' (first | exact trivial | rfl | apply And.intro), rfl, rfl⟩, ?_⟩; conv => whnf)
    (refine gGo ?_; intros)
    (refine gM ?_; conv => whnf)
    exact retH rfl (.refl _) rfl rfl rfl ⟨rfl, rfl, trivial⟩
  by_cases hv2 : v = 2
  · refine ⟨⟨false, s⟩, nextP l (nextP l p), ⟨hw s hs, fun h => by cases h⟩, hp2, ?_⟩
    refine gEn env Tryz.func58 fun Γ hN hK hML => ?_
    (refine gGo ?_; intros)
    (refine ⟨_, _, _, callG [(0, 0)] [] [] rfl rfl rfl (by kernel_rfl) (sp1) (by repeat' (first | exact trivial | exact Lent.refl _ | exact Lent.norm _ | exact Lent.whole rfl rfl (by first | rfl | exact List.length_append.symm | exact hlenR | simp) rfl (by first | exact .inl rfl | exact .inr rfl) | apply And.intro)) rfl ⟨rfl, rfl, rfl, rfl, rfl, by repeat' (first | exact trivial | rfl | apply And.intro), rfl, rfl⟩, ?_⟩; conv => whnf)
    (refine gGo ?_; intros)
    (refine ⟨_, _, _, callG [(0, 0)] [] [] rfl rfl rfl (by kernel_rfl) (sp2) (by repeat' (first | exact trivial | exact Lent.refl _ | exact Lent.norm _ | exact Lent.whole rfl rfl (by first | rfl | exact List.length_append.symm | exact hlenR | simp) rfl (by first | exact .inl rfl | exact .inr rfl) | apply And.intro)) rfl ⟨rfl, rfl, rfl, rfl, rfl, by repeat' (first | exact trivial | rfl | apply And.intro), rfl, rfl⟩, ?_⟩; conv => whnf)
    (refine gGo ?_; intros)
    (refine gM ?_; conv => whnf)
    exact retH rfl (.refl _) rfl rfl rfl ⟨rfl, rfl, trivial⟩
  · refine ⟨⟨false, Lib.itoa (v3 - 3)⟩, nextP l (nextP l p), ⟨hi1, fun h => by cases h⟩, hp2, ?_⟩
    refine gEn env Tryz.func58 fun Γ hN hK hML => ?_
    (refine gGo ?_; intros)
    (refine ⟨_, _, _, callG [(0, 0)] [] [] rfl rfl rfl (by kernel_rfl) (sp1) (by repeat' (first | exact trivial | exact Lent.refl _ | exact Lent.norm _ | exact Lent.whole rfl rfl (by first | rfl | exact List.length_append.symm | exact hlenR | simp) rfl (by first | exact .inl rfl | exact .inr rfl) | apply And.intro)) rfl ⟨rfl, rfl, rfl, rfl, rfl, by repeat' (first | exact trivial | rfl | apply And.intro), rfl, rfl⟩, ?_⟩; conv => whnf)
    (refine gGo ?_; intros)
    (refine ⟨_, _, _, callG [(0, 0)] [] [] rfl rfl rfl (by kernel_rfl) (sp3) (by repeat' (first | exact trivial | exact Lent.refl _ | exact Lent.norm _ | exact Lent.whole rfl rfl (by first | rfl | exact List.length_append.symm | exact hlenR | simp) rfl (by first | exact .inl rfl | exact .inr rfl) | apply And.intro)) rfl ⟨rfl, rfl, rfl, rfl, rfl, by repeat' (first | exact trivial | rfl | apply And.intro), rfl, rfl⟩, ?_⟩; conv => whnf)
    (refine gGo ?_; intros)
    (refine gPC (sp4) ?_; conv => whnf)
    (refine gGo ?_; intros)
    (refine gM ?_; conv => whnf)
    exact retH rfl (.refl _) rfl rfl rfl ⟨rfl, rfl, trivial⟩
end Go.Sx.Sp
namespace Go.Sx.Sp
open Go Go.Sx Go.Proofs
attribute [local irreducible] GoodW
theorem fitsN {n b : Nat} (h : n * b ≤ 70368744177664) (h1 : n ≤ 70368744177664) : fitsV n b := ⟨by omega, by omega⟩
noncomputable def cellF (l : List Int) (p : Nat) : Cell × Nat := if h : p ≤ l.length then (Classical.choose (cell_spec l p h), Classical.choose (Classical.choose_spec (cell_spec l p h))) else (⟨true, []⟩, p)
theorem cellF_spec {l : List Int} {p : Nat} (h : p ≤ l.length) : GoodCell (cellF l p).1 ∧ (cellF l p).2 ≤ l.length ∧ Spec Tryz.prog 57 [.bp 0 0] [(0, diceB l p)] (.agg (cellF l p).1.row) [(0, diceB l (cellF l p).2)] := by
  have := Classical.choose_spec (Classical.choose_spec (cell_spec l p h))
  simp only [cellF, dif_pos h]
  exact this
noncomputable def numF (l : List Int) (p : Nat) : Cell × Nat := if h : p ≤ l.length then (Classical.choose (number_spec l p h), Classical.choose (Classical.choose_spec (number_spec l p h))) else (⟨true, []⟩, p)
theorem numF_spec {l : List Int} {p : Nat} (h : p ≤ l.length) : GoodCell (numF l p).1 ∧ (numF l p).2 ≤ l.length ∧ Spec Tryz.prog 58 [.bp 0 0] [(0, diceB l p)] (.agg (numF l p).1.row) [(0, diceB l (numF l p).2)] := by
  have := Classical.choose_spec (Classical.choose_spec (number_spec l p h))
  simp only [numF, dif_pos h]
  exact this
noncomputable def wordF (ws : List Str) (l : List Int) (p : Nat) : Str := if h : ws ≠ [] ∧ ws.length ≤ 4611686018427387904 ∧ p ≤ l.length then Classical.choose (word_spec l p ws h.1 h.2.1 h.2.2) else []
theorem wordF_spec {ws : List Str} {l : List Int} {p : Nat} (h1 : ws ≠ []) (h2 : ws.length ≤ 4611686018427387904) (h : p ≤ l.length) : wordF ws l p ∈ ws ∧ Spec Tryz.prog 25 [.bp 0 0, .sl (strRows ws) false] [(0, diceB l p)] (.str (wordF ws l p)) [(0, diceB l (nextP l p))] := by
  have := Classical.choose_spec (word_spec l p ws h1 h2 h)
  simp only [wordF, dif_pos (show ws ≠ [] ∧ ws.length ≤ 4611686018427387904 ∧ p ≤ l.length from ⟨h1, h2, h⟩)]
  exact this
def seqF {α : Type} (step : Nat → Nat → α × Nat) : Nat → Nat → Nat → List α × Nat
  | 0, _, p => ([], p)
  | n + 1, i, p => ((step i p).1 :: (seqF step n (i + 1) (step i p).2).1, (seqF step n (i + 1) (step i p).2).2)
theorem seqF_len {α : Type} (step : Nat → Nat → α × Nat) : ∀ n i p, (seqF step n i p).1.length = n
  | 0, _, _ => rfl
  | n + 1, i, p => by simp only [seqF, List.length_cons, seqF_len step n]
theorem seqF_ok {α : Type} {step : Nat → Nat → α × Nat} {L : Nat} {Q : α → Prop} {B : Nat} (h : ∀ i p, i < B → p ≤ L → Q (step i p).1 ∧ (step i p).2 ≤ L) : ∀ n i p, n + i ≤ B → p ≤ L → (∀ x ∈ (seqF step n i p).1, Q x) ∧ (seqF step n i p).2 ≤ L
  | 0, _, p, _, hp => ⟨fun x hx => (by cases hx), hp⟩
  | n + 1, i, p, hB, hp => by
    obtain ⟨h1, h2⟩ := h i p (by omega) hp
    obtain ⟨h3, h4⟩ := seqF_ok h n (i + 1) _ (by omega) h2
    refine ⟨fun x hx => ?_, h4⟩
    simp only [seqF, List.mem_cons] at hx
    rcases hx with rfl | hx
    · exact h1
    · exact h3 x hx
def colNames : List Str := [[105, 100], [110, 97, 109, 101], [85, 110, 105, 116, 32, 80, 114, 105, 99, 101], [99, 105, 116, 121], [117, 110, 105, 116], [112, 114, 105, 99, 101], [105, 100, 50], []]
def abcd : List Str := [[97], [98], [99], [100]]
noncomputable def colStep (l : List Int) (kind : Int) (i p : Nat) : Cell × Nat :=
  if kind = 0 then numF l (cellF l p).2
  else if kind = 1 then (⟨false, 107 :: Lib.itoa i⟩, (cellF l p).2)
  else if kind = 2 then (⟨false, wordF abcd l (cellF l p).2⟩, nextP l (cellF l p).2)
  else cellF l p
theorem colStep_ok {l : List Int} {kind : Int} {i p : Nat} (hi : i < 100) (hp : p ≤ l.length) : GoodCell (colStep l kind i p).1 ∧ (colStep l kind i p).2 ≤ l.length := by
  obtain ⟨h1, h2, _⟩ := cellF_spec hp
  unfold colStep
  split
  · obtain ⟨h3, h4, _⟩ := numF_spec h2; exact ⟨h3, h4⟩
  · split
    · obtain ⟨⟨h3, h5⟩, h4⟩ := itoa_good (n := (i : Int)) (by omega)
      refine ⟨⟨⟨by simp only [List.length_cons]; omega, fun b hb => ?_⟩, fun h => by cases h⟩, h2⟩
      rcases List.mem_cons.1 hb with rfl | hb
      · decide
      · exact h5 b hb
    · split
      · have hw : GoodTexts abcd := by decide +kernel
        obtain ⟨h3, _⟩ := wordF_spec (ws := abcd) (by decide) (by decide) h2
        exact ⟨⟨hw _ h3, fun h => by cases h⟩, nextP_le h2⟩
      · exact ⟨h1, h2⟩
noncomputable def colF (l : List Int) (n p : Nat) : Column × Nat :=
  (⟨wordF colNames l p, (seqF (colStep l (nextV l (nextP l p) 5)) n 0 (nextP l (nextP l p))).1⟩, (seqF (colStep l (nextV l (nextP l p) 5)) n 0 (nextP l (nextP l p))).2)
theorem cellRows_snoc (a : List Cell) (c : Cell) : cellRows (a ++ [c]) = cellRows a ++ [c.row] := by simp [cellRows]
set_option maxHeartbeats 8000000 in
theorem column_spec (l : List Int) (n p : Nat) (hn : n ≤ 50) (hp : p ≤ l.length) : Spec Tryz.prog 26 [.bp 0 0, .int .i64 n] [(0, diceB l p)] (.agg (colF l n p).1.row) [(0, diceB l (colF l n p).2)] := by
  have hp1 := nextP_le hp
  have hp2 := nextP_le hp1
  obtain ⟨_, sp1⟩ := wordF_spec (ws := colNames) (by decide) (by decide) hp
  have sp2 := next_spec l (nextP l p) 5 (by omega) hp1
  have hdef : colF l n p = (⟨wordF colNames l p, (seqF (colStep l (nextV l (nextP l p) 5)) n 0 (nextP l (nextP l p))).1⟩, (seqF (colStep l (nextV l (nextP l p) 5)) n 0 (nextP l (nextP l p))).2) := rfl
  rw [hdef]
  generalize hs : seqF (colStep l (nextV l (nextP l p) 5)) n 0 (nextP l (nextP l p)) = res
  generalize nextV l (nextP l p) 5 = kind at *
  generalize nextP l (nextP l p) = p2 at *
  generalize nextP l p = p1 at *
  generalize wordF colNames l p = name at *
  clear hdef
  refine gEn env Tryz.func26 fun Γ hN hK hML => ?_
  (refine gGo ?_; intros)
  (refine ⟨_, _, _, callG [(0, 0)] [] [] rfl rfl rfl (by kernel_rfl) (sp1) (by repeat' (first | exact trivial | exact Lent.refl _ | exact Lent.norm _ | exact Lent.whole rfl rfl (by first | rfl | exact List.length_append.symm | exact hlenR | simp) rfl (by first | exact .inl rfl | exact .inr rfl) | apply And.intro)) rfl ⟨rfl, rfl, rfl, rfl, rfl, by repeat' (first | exact trivial | rfl | apply And.intro), rfl, rfl⟩, ?_⟩; conv => whnf)
  (refine gGo ?_; intros)
  (refine ⟨_, _, _, callG [(0, 0)] [] [] rfl rfl rfl (by kernel_rfl) (sp2) (by repeat' (first | exact trivial | exact Lent.refl _ | exact Lent.norm _ | exact Lent.whole rfl rfl (by first | rfl | exact List.length_append.symm | exact hlenR | simp) rfl (by first | exact .inl rfl | exact .inr rfl) | apply And.intro)) rfl ⟨rfl, rfl, rfl, rfl, rfl, by repeat' (first | exact trivial | rfl | apply And.intro), rfl, rfl⟩, ?_⟩; conv => whnf)
  (refine gGo ?_; intros)
  refine W.ownCell 5 0 1 60 2 rfl rfl rfl rfl rfl ?_
  refine W.loopG (fun m st => ∃ (j q : Nat) (out : List Cell), j ≤ n ∧ q ≤ l.length ∧ out.length = j ∧ res = (out ++ (seqF (colStep l kind) (n - j) j q).1, (seqF (colStep l kind) (n - j) j q).2) ∧ m = n - j ∧ st = ⟨[(0, .bp 0 0), (4, .bp 4 0), (5, .bp 5 0), (6, .int .i64 kind), (15, .int .i64 n), (16, .int .i64 j)], [(0, [diceB l q]), (4, [.rows 2 [[.str [], .nils]] none]), (5, [.rows 2 [[.str name, .osl 60 0 0 (cellRows out).length (cellRows out).length]] none]), (60, [.rows 2 (cellRows out) (some [])])], [0, 4, 5, 60]⟩)
    n _ ⟨0, p2, [], by omega, hp2, rfl, by rw [← hs]; rfl, by omega, rfl⟩ ⟨[(0, 0), (4, 4), (5, 5), (60, 60)], [], [], .mq (.ci 0 (.ci 4 (.ci 5 (.ci 60 .nil))))⟩ ?_
  rintro m st ⟨j, q, out, hj, hq, ho, he, rfl, rfl⟩
  have hol := cellRows_len out
  (refine gGo ?_; intros)
  refine boolRes_split (fun hb => ?_) (fun hb => ?_) <;> conv => whnf
  · have hlt : j < n := by omega
    obtain ⟨hc1, hc2, hc3⟩ := cellF_spec hq
    have hstep := colStep_ok (l := l) (kind := kind) (i := j) (by omega) hq
    rw [show n - j = (n - (j + 1)) + 1 by omega] at he
    simp only [seqF] at he
    (refine gGo ?_; intros)
    (refine ⟨_, _, _, callG [(0, 0)] [] [] rfl rfl rfl (by kernel_rfl) (hc3) (by repeat' (first | exact trivial | exact Lent.refl _ | exact Lent.norm _ | exact Lent.whole rfl rfl (by first | rfl | exact List.length_append.symm | exact hlenR | simp) rfl (by first | exact .inl rfl | exact .inr rfl) | apply And.intro)) rfl ⟨rfl, rfl, rfl, rfl, rfl, by repeat' (first | exact trivial | rfl | apply And.intro), rfl, rfl⟩, ?_⟩; conv => whnf)
    (refine gGo ?_; intros)
    refine boolRes_split (fun hb => ?_) (fun hb => ?_) <;> conv => whnf
    · have hk : colStep l kind j q = numF l (cellF l q).2 := by simp [colStep, hb]
      obtain ⟨hn1, hn2, hn3⟩ := numF_spec hc2
      rw [hk] at he hstep
      (refine gGo ?_; intros)
      (refine ⟨_, _, _, callG [(0, 0)] [] [] rfl rfl rfl (by kernel_rfl) (hn3) (by repeat' (first | exact trivial | exact Lent.refl _ | exact Lent.norm _ | exact Lent.whole rfl rfl (by first | rfl | exact List.length_append.symm | exact hlenR | simp) rfl (by first | exact .inl rfl | exact .inr rfl) | apply And.intro)) rfl ⟨rfl, rfl, rfl, rfl, rfl, by repeat' (first | exact trivial | rfl | apply And.intro), rfl, rfl⟩, ?_⟩; conv => whnf)
      (refine gGo ?_; intros)
      refine ⟨⟨rowsSz_cons rfl rowsSz_nil, rfl⟩, fitsN (n := (cellRows out).length + 1) (b := 24) (by omega) (by omega), .inl ⟨rfl, rfl, ?_⟩⟩
      conv => whnf
      (refine gGo ?_; intros)
      refine ⟨_, _, ?_, ⟨j + 1, _, out ++ [_], by omega, hstep.2, by simp; omega, (by rw [he, List.append_cons]), rfl, rfl⟩, [(0, 0), (4, 4), (5, 5), (60, 60)], [], [], LeG.mq (.ci 0 (.ci 4 (.cons 5 rfl rfl (.refl _) ?_ (.cons 60 rfl rfl (.refl _) ?_ .nil))))⟩
      · omega
      · rw [cellRows_snoc, List.length_append]; rfl
      · rw [cellRows_snoc]; rfl
    (refine gGo ?_; intros)
    refine boolRes_split (fun hb => ?_) (fun hb => ?_) <;> conv => whnf
    · have hk : colStep l kind j q = (⟨false, 107 :: Lib.itoa j⟩, (cellF l q).2) := by simp [colStep, hb]
      obtain ⟨hi1, hi2⟩ := itoa_good (n := (j : Int)) (by omega)
      have sp4 := itoa_spec (j : Int) (by omega) (by omega) (by omega)
      rw [hk] at he hstep
      (refine gGo ?_; intros)
      (refine gPC (sp4) ?_; conv => whnf)
      (refine gGo ?_; intros)
      refine And.intro (by show [107].length + (Lib.itoa j).length ≤ _; simp only [List.length_singleton]; omega) ?_
      conv => whnf
      (refine gGo ?_; intros)
      refine ⟨⟨rowsSz_cons rfl rowsSz_nil, rfl⟩, fitsN (n := (cellRows out).length + 1) (b := 24) (by omega) (by omega), .inl ⟨rfl, rfl, ?_⟩⟩
      conv => whnf
      (refine gGo ?_; intros)
      refine ⟨_, _, ?_, ⟨j + 1, _, out ++ [_], by omega, hstep.2, by simp; omega, (by rw [he, List.append_cons]), rfl, rfl⟩, [(0, 0), (4, 4), (5, 5), (60, 60)], [], [], LeG.mq (.ci 0 (.ci 4 (.cons 5 rfl rfl (.refl _) ?_ (.cons 60 rfl rfl (.refl _) ?_ .nil))))⟩
      · omega
      · rw [cellRows_snoc, List.length_append]; rfl
      · rw [cellRows_snoc]; rfl
    (refine gGo ?_; intros)
    refine boolRes_split (fun hb => ?_) (fun hb => ?_) <;> conv => whnf
    · have hk : colStep l kind j q = (⟨false, wordF abcd l (cellF l q).2⟩, nextP l (cellF l q).2) := by simp [colStep, hb]
      obtain ⟨_, sp5⟩ := wordF_spec (ws := abcd) (by decide) (by decide) hc2
      rw [hk] at he hstep
      (refine gGo ?_; intros)
      (refine ⟨_, _, _, callG [(0, 0)] [] [] rfl rfl rfl (by kernel_rfl) (sp5) (by repeat' (first | exact trivial | exact Lent.refl _ | exact Lent.norm _ | exact Lent.whole rfl rfl (by first | rfl | exact List.length_append.symm | exact hlenR | simp) rfl (by first | exact .inl rfl | exact .inr rfl) | apply And.intro)) rfl ⟨rfl, rfl, rfl, rfl, rfl, by repeat' (first | exact trivial | rfl | apply And.intro), rfl, rfl⟩, ?_⟩; conv => whnf)
      (refine gGo ?_; intros)
      refine ⟨⟨rowsSz_cons rfl rowsSz_nil, rfl⟩, fitsN (n := (cellRows out).length + 1) (b := 24) (by omega) (by omega), .inl ⟨rfl, rfl, ?_⟩⟩
      conv => whnf
      (refine gGo ?_; intros)
      refine ⟨_, _, ?_, ⟨j + 1, _, out ++ [_], by omega, hstep.2, by simp; omega, (by rw [he, List.append_cons]), rfl, rfl⟩, [(0, 0), (4, 4), (5, 5), (60, 60)], [], [], LeG.mq (.ci 0 (.ci 4 (.cons 5 rfl rfl (.refl _) ?_ (.cons 60 rfl rfl (.refl _) ?_ .nil))))⟩
      · omega
      · rw [cellRows_snoc, List.length_append]; rfl
      · rw [cellRows_snoc]; rfl
    · have hk : colStep l kind j q = cellF l q := by
        unfold colStep
        rw [if_neg (by assumption), if_neg (by assumption), if_neg hb]
      rw [hk] at he hstep
      (refine gGo ?_; intros)
      refine ⟨⟨rowsSz_cons rfl rowsSz_nil, rfl⟩, fitsN (n := (cellRows out).length + 1) (b := 24) (by omega) (by omega), .inl ⟨rfl, rfl, ?_⟩⟩
      conv => whnf
      (refine gGo ?_; intros)
      refine ⟨_, _, ?_, ⟨j + 1, _, out ++ [_], by omega, hstep.2, by simp; omega, (by rw [he, List.append_cons]), rfl, rfl⟩, [(0, 0), (4, 4), (5, 5), (60, 60)], [], [], LeG.mq (.ci 0 (.ci 4 (.cons 5 rfl rfl (.refl _) ?_ (.cons 60 rfl rfl (.refl _) ?_ .nil))))⟩
      · omega
      · rw [cellRows_snoc, List.length_append]; rfl
      · rw [cellRows_snoc]; rfl
  · have hje : j = n := by omega
    rw [hje, Nat.sub_self] at he
    simp only [seqF, List.append_nil] at he
    rw [he]
    (refine gGo ?_; intros)
    refine W.leG (mp := [(0, 0), (4, 4)]) (bo := [60]) (st' := ⟨[(4, .bp 4 0)], [(0, [diceB l q]), (4, [.rows 2 [Column.row ⟨name, out⟩] none])], [0, 4]⟩)
      (LeG.mq (.ci 0 (.cons 4 (b1 := .rows 2 [Column.row ⟨name, out⟩] none) rfl rfl (.rows _ _ _ (by repeat' (first | exact trivial | exact ⟨Lent.refl _, rfl⟩ | exact ⟨Lent.norm _, rfl⟩ | exact ⟨Lent.whole rfl rfl (by first | rfl | exact List.length_append.symm | exact hlenR | simp) rfl (by first | exact .inl rfl | exact .inr rfl), rfl⟩ | apply And.intro))) rfl .nil))) ?_
    (refine gM ?_; conv => whnf)
    exact retH rfl (.refl _) rfl rfl rfl ⟨rfl, rfl, trivial⟩
end Go.Sx.Sp
namespace Go.Sx.Sp
open Go Go.Sx Go.Proofs
attribute [local irreducible] GoodW
structure GoodCol (n : Nat) (c : Column) : Prop where
  name : GoodText c.name
  len : c.cells.length = n
  cells : ∀ x ∈ c.cells, GoodCell x
structure GoodTable (t : Table) : Prop where
  name : GoodText t.name
  few : t.cols.length ≤ 3
  cols : ∃ n, n ≤ 6 ∧ ∀ c ∈ t.cols, GoodCol n c
theorem colF_ok {l : List Int} {n p : Nat} (hn : n ≤ 50) (hp : p ≤ l.length) : GoodCol n (colF l n p).1 ∧ (colF l n p).2 ≤ l.length := by
  have hp1 := nextP_le hp
  have hp2 := nextP_le hp1
  have hw : GoodTexts colNames := by decide +kernel
  obtain ⟨h1, _⟩ := wordF_spec (ws := colNames) (by decide) (by decide) hp
  obtain ⟨h2, h3⟩ := seqF_ok (step := colStep l (nextV l (nextP l p) 5)) (Q := GoodCell) (B := 100) (fun i p hi hp => colStep_ok hi hp) n 0 _ (by omega) hp2
  exact ⟨⟨hw _ h1, seqF_len _ _ _ _, h2⟩, h3⟩
def tblNames : List Str := [[116], [111, 114, 100, 101, 114, 115], []]
noncomputable def tblC (l : List Int) (p : Nat) : List Column × Nat :=
  seqF (fun _ q => colF l (nextV l (nextP l p) 7).toNat q) (1 + (nextV l (nextP l (nextP l p)) 3).toNat) 0 (nextP l (nextP l (nextP l p)))
noncomputable def tblF (l : List Int) (id : Int) (p : Nat) : Table × Nat :=
  (⟨id, wordF tblNames l p, if nextV l (tblC l p).2 15 = 1 then [] else (tblC l p).1⟩, nextP l (tblC l p).2)
theorem tblC_ok {l : List Int} {p : Nat} (hp : p ≤ l.length) : ((tblC l p).1.length ≤ 3 ∧ ∀ c ∈ (tblC l p).1, GoodCol (nextV l (nextP l p) 7).toNat c) ∧ (tblC l p).2 ≤ l.length := by
  have hp1 := nextP_le hp
  have hp2 := nextP_le hp1
  have hp3 := nextP_le hp2
  have hr := nextV_range l (nextP l p) (n := 7) (by omega)
  have hr2 := nextV_range l (nextP l (nextP l p)) (n := 3) (by omega)
  obtain ⟨h2, h3⟩ := seqF_ok (step := fun _ q => colF l (nextV l (nextP l p) 7).toNat q) (Q := GoodCol (nextV l (nextP l p) 7).toNat) (B := 100) (fun i q hi hq => colF_ok (by omega) hq) (1 + (nextV l (nextP l (nextP l p)) 3).toNat) 0 _ (by omega) hp3
  exact ⟨⟨by unfold tblC; rw [seqF_len]; omega, h2⟩, h3⟩
theorem tblF_ok {l : List Int} {id : Int} {p : Nat} (hp : p ≤ l.length) : GoodTable (tblF l id p).1 ∧ (tblF l id p).1.id = id ∧ (tblF l id p).2 ≤ l.length := by
  have hw : GoodTexts tblNames := by decide +kernel
  obtain ⟨h1, _⟩ := wordF_spec (ws := tblNames) (by decide) (by decide) hp
  obtain ⟨⟨h2, h3⟩, h4⟩ := tblC_ok hp
  have hr := nextV_range l (nextP l p) (n := 7) (by omega)
  refine ⟨⟨hw _ h1, ?_, (nextV l (nextP l p) 7).toNat, by omega, ?_⟩, rfl, nextP_le h4⟩
  · simp only [tblF]; split
    · simp
    · exact h2
  · simp only [tblF]; split
    · simp
    · exact h3
theorem colRows_snoc (a : List Column) (c : Column) : colRows (a ++ [c]) = colRows a ++ [c.row] := by simp [colRows]
set_option maxHeartbeats 8000000 in
theorem table_spec (l : List Int) (id : Int) (p : Nat) (hp : p ≤ l.length) : Spec Tryz.prog 10 [.bp 0 0, .int .i64 id] [(0, diceB l p)] (.agg (tblF l id p).1.row) [(0, diceB l (tblF l id p).2)] := by
  have hp1 := nextP_le hp
  have hp2 := nextP_le hp1
  have hp3 := nextP_le hp2
  obtain ⟨_, hp4⟩ := tblC_ok hp
  obtain ⟨_, sp1⟩ := wordF_spec (ws := tblNames) (by decide) (by decide) hp
  have sp2 := next_spec l (nextP l p) 7 (by omega) hp1
  have sp3 := next_spec l (nextP l (nextP l p)) 3 (by omega) hp2
  have sp4 := next_spec l (tblC l p).2 15 (by omega) hp4
  have hr := nextV_range l (nextP l p) (n := 7) (by omega)
  have hr2 := nextV_range l (nextP l (nextP l p)) (n := 3) (by omega)
  have hdef : tblF l id p = (⟨id, wordF tblNames l p, if nextV l (tblC l p).2 15 = 1 then [] else (tblC l p).1⟩, nextP l (tblC l p).2) := rfl
  have hC : tblC l p = seqF (fun _ q => colF l (nextV l (nextP l p) 7).toNat q) (1 + (nextV l (nextP l (nextP l p)) 3).toNat) 0 (nextP l (nextP l (nextP l p))) := rfl
  obtain ⟨n, hn⟩ := Int.eq_ofNat_of_zero_le hr.1
  obtain ⟨k3, hk3⟩ := Int.eq_ofNat_of_zero_le hr2.1
  rw [hdef]
  rw [hn] at sp2 hr hC
  rw [hk3] at sp3 hr2 hC
  rw [Int.toNat_natCast, Int.toNat_natCast] at hC
  generalize tblC l p = res at *
  generalize nextV l res.2 15 = v15 at *
  generalize nextP l (nextP l (nextP l p)) = p3 at *
  generalize nextP l (nextP l p) = p2 at *
  generalize nextP l p = p1 at *
  generalize wordF tblNames l p = name at *
  clear hdef
  refine gEn env Tryz.func10 fun Γ hN hK hML => ?_
  (refine gGo ?_; intros)
  (refine ⟨_, _, _, callG [(0, 0)] [] [] rfl rfl rfl (by kernel_rfl) (sp1) (by repeat' (first | exact trivial | exact Lent.refl _ | exact Lent.norm _ | exact Lent.whole rfl rfl (by first | rfl | exact List.length_append.symm | exact hlenR | simp) rfl (by first | exact .inl rfl | exact .inr rfl) | apply And.intro)) rfl ⟨rfl, rfl, rfl, rfl, rfl, by repeat' (first | exact trivial | rfl | apply And.intro), rfl, rfl⟩, ?_⟩; conv => whnf)
  (refine gGo ?_; intros)
  (refine ⟨_, _, _, callG [(0, 0)] [] [] rfl rfl rfl (by kernel_rfl) (sp2) (by repeat' (first | exact trivial | exact Lent.refl _ | exact Lent.norm _ | exact Lent.whole rfl rfl (by first | rfl | exact List.length_append.symm | exact hlenR | simp) rfl (by first | exact .inl rfl | exact .inr rfl) | apply And.intro)) rfl ⟨rfl, rfl, rfl, rfl, rfl, by repeat' (first | exact trivial | rfl | apply And.intro), rfl, rfl⟩, ?_⟩; conv => whnf)
  (refine gGo ?_; intros)
  (refine ⟨_, _, _, callG [(0, 0)] [] [] rfl rfl rfl (by kernel_rfl) (sp3) (by repeat' (first | exact trivial | exact Lent.refl _ | exact Lent.norm _ | exact Lent.whole rfl rfl (by first | rfl | exact List.length_append.symm | exact hlenR | simp) rfl (by first | exact .inl rfl | exact .inr rfl) | apply And.intro)) rfl ⟨rfl, rfl, rfl, rfl, rfl, by repeat' (first | exact trivial | rfl | apply And.intro), rfl, rfl⟩, ?_⟩; conv => whnf)
  (refine gGo ?_; intros)
  refine W.ownCell 5 0 2 60 2 rfl rfl rfl rfl rfl ?_
  refine W.loopG (fun m st => ∃ (j i q : Nat) (out : List Column), j ≤ 3 ∧ q ≤ l.length ∧ out.length + j ≤ 3 ∧ res = (out ++ (seqF (fun _ q => colF l n q) j i q).1, (seqF (fun _ q => colF l n q) j i q).2) ∧ m = j ∧ st = ⟨[(0, .bp 0 0), (4, .bp 4 0), (5, .bp 5 0), (6, .int .i64 n), (7, .int .i64 j)], [(0, [diceB l q]), (4, [.rows 3 [[.int .i64 0, .str [], .nils]] none]), (5, [.rows 3 [[.int .i64 id, .str name, .osl 60 0 0 (colRows out).length (colRows out).length]] none]), (60, [.rows 2 (colRows out) (some [])])], [0, 4, 5, 60]⟩)
    (1 + k3) _ ⟨1 + k3, 0, p3, [], by omega, hp3, by simp; omega, by rw [hC]; rfl, rfl, rfl⟩ ?_ ?_
  · exact ⟨[(0, 0), (4, 4), (5, 5), (60, 60)], [], [], LeG.mk' rfl rfl rfl (by repeat' (first | exact trivial | exact ⟨_, .refl _, rfl⟩ | exact ⟨_, .refl _, by show V.int .i64 (1 + (k3 : Int)) = V.int .i64 ((1 + k3 : Nat) : Int); congr 1⟩ | apply And.intro)) (.ci 0 (.ci 4 (.ci 5 (.ci 60 .nil)))) rfl rfl (by rw [hK]; rfl)⟩
  rintro m st ⟨j, i, q, out, hj, hq, ho, he, rfl, rfl⟩
  have hol := colRows_len out
  rcases m with _ | j
  · have h0 : ((0 : Nat) : Int) = 0 := rfl
    simp only [seqF, List.append_nil] at he
    have hq2 : res.2 = q := by rw [he]
    have ho2 : res.1 = out := by rw [he]
    rw [hq2] at sp4
    rw [hq2, ho2]
    clear he
    (refine gGo ?_; intros)
    (refine ⟨_, _, _, callG [(0, 0)] [] [] rfl rfl rfl (by kernel_rfl) (sp4) (by repeat' (first | exact trivial | exact Lent.refl _ | exact Lent.norm _ | exact Lent.whole rfl rfl (by first | rfl | exact List.length_append.symm | exact hlenR | simp) rfl (by first | exact .inl rfl | exact .inr rfl) | apply And.intro)) rfl ⟨rfl, rfl, rfl, rfl, rfl, by repeat' (first | exact trivial | rfl | apply And.intro), rfl, rfl⟩, ?_⟩; conv => whnf)
    (refine gGo ?_; intros)
    refine boolRes_split (fun hb => ?_) (fun hb => ?_) <;> conv => whnf
    · rw [if_pos hb]
      (refine gGo ?_; intros)
      (refine gM ?_; conv => whnf)
      exact retH rfl (.norm _) rfl rfl rfl ⟨rfl, rfl, trivial⟩
    · rw [if_neg hb]
      (refine gGo ?_; intros)
      refine W.leG (mp := [(0, 0), (4, 4)]) (bo := [60]) (st' := ⟨[(4, .bp 4 0)], [(0, [diceB l (nextP l q)]), (4, [.rows 3 [Table.row ⟨id, name, out⟩] none])], [0, 4]⟩)
        (LeG.mq (.ci 0 (.cons 4 (b1 := .rows 3 [Table.row ⟨id, name, out⟩] none) rfl rfl (.rows _ _ _ (by repeat' (first | exact trivial | exact ⟨Lent.refl _, rfl⟩ | exact ⟨Lent.norm _, rfl⟩ | exact ⟨Lent.whole rfl rfl (by first | rfl | exact List.length_append.symm | exact hlenR | simp) rfl (by first | exact .inl rfl | exact .inr rfl), rfl⟩ | apply And.intro))) rfl .nil))) ?_
      (refine gM ?_; conv => whnf)
      exact retH rfl (.refl _) rfl rfl rfl ⟨rfl, rfl, trivial⟩
  · have sp5 := column_spec l n q (by omega) hq
    obtain ⟨_, hq2⟩ := colF_ok (n := n) (by omega) hq
    simp only [seqF] at he
    (refine gGo ?_; intros)
    (refine ⟨_, _, _, callG [(0, 0)] [] [] rfl rfl rfl (by kernel_rfl) (sp5) (by repeat' (first | exact trivial | exact Lent.refl _ | exact Lent.norm _ | exact Lent.whole rfl rfl (by first | rfl | exact List.length_append.symm | exact hlenR | simp) rfl (by first | exact .inl rfl | exact .inr rfl) | apply And.intro)) rfl ⟨rfl, rfl, rfl, rfl, rfl, by repeat' (first | exact trivial | rfl | apply And.intro), rfl, rfl⟩, ?_⟩; conv => whnf)
    (refine gGo ?_; intros)
    refine ⟨⟨rowsSz_cons rfl rowsSz_nil, rfl⟩, fitsN (n := (colRows out).length + 1) (b := 40) (by omega) (by omega), .inl ⟨rfl, rfl, ?_⟩⟩
    conv => whnf
    (refine gGo ?_; intros)
    refine ⟨_, _, ?_, ⟨j, i + 1, _, out ++ [_], by omega, hq2, by simp; omega, (by rw [he, List.append_cons]), rfl, rfl⟩, [(0, 0), (4, 4), (5, 5), (60, 60)], [], [], LeG.mk' rfl rfl rfl ⟨⟨_, .refl _, rfl⟩, ⟨_, .refl _, rfl⟩, ⟨_, .refl _, rfl⟩, ⟨_, .refl _, rfl⟩, ⟨_, .refl _, (by show V.int .i64 (((j + 1 : Nat) : Int) - 1) = _; congr 1; omega)⟩, trivial⟩ (.ci 0 (.ci 4 (.cons 5 rfl rfl (.refl _) ?_ (.cons 60 rfl rfl (.refl _) ?_ .nil)))) rfl rfl (by rw [hK]; rfl)⟩
    · omega
    · rw [colRows_snoc, List.length_append]; rfl
    · rw [colRows_snoc]; rfl
end Go.Sx.Sp
namespace Go.Sx.Sp
open Go Go.Sx Go.Proofs
attribute [local irreducible] GoodW
def fineB (s : Str) : Bool := decide (s.length ≤ 1024) && Lib.validD s
def cellB (c : Cell) : Bool := fineB c.text && !(c.null && decide (c.text ≠ []))
def rowsN (t : Table) : Nat := match t.cols with | [] => 0 | c :: _ => c.cells.length
def badCol (t : Table) (c : Column) : Bool := !fineB c.name || decide (c.cells.length ≠ rowsN t) || !c.cells.all cellB
def headB (t : Table) : Bool := decide (0 ≤ t.id ∧ t.id ≤ 1073741824) && fineB t.name && decide (t.cols.length ≤ 64) && decide (rowsN t ≤ 4096)
def validB (t : Table) : Bool := headB t && !t.cols.any (badCol t)
def ixFrom {α : Type} (p : α → Bool) : List α → Nat → Int
  | [], _ => -1
  | x :: l, k => if p x = true then k else ixFrom p l (k + 1)
theorem ixFrom_nonneg {α : Type} (p : α → Bool) : ∀ (l : List α) (k : Nat), 0 ≤ ixFrom p l k ↔ l.any p = true
  | [], k => by simp [ixFrom]
  | x :: l, k => by
    simp only [ixFrom, List.any_cons]
    by_cases h : p x = true
    · simp [h]
    · simp [h, ixFrom_nonneg p l (k + 1)]
set_option maxHeartbeats 1000000 in
theorem textValid_spec (s : Str) : Spec Tryz.prog 87 [.str s] [] (.bool (Lib.validD s)) [] := by
  refine gEn env Tryz.func87 fun Γ hN hK hML => ?_
  (refine gGo ?_; intros)
  (refine gPC (utf8_spec s) ?_; conv => whnf)
  (refine gGr ?_; intros)
  exact ret0 rfl rfl rfl
set_option maxHeartbeats 1000000 in
theorem fine_spec (s : Str) : Spec Tryz.prog 62 [.str s] [] (.bool (fineB s)) [] := by
  refine gEn env Tryz.func62 fun Γ hN hK hML => ?_
  (refine gGo ?_; intros)
  refine boolRes_split (fun hb => ?_) (fun hb => ?_) <;> conv => whnf
  · (refine gGo ?_; intros)
    (refine gPC (textValid_spec s) ?_; conv => whnf)
    (refine gGr ?_; intros)
    exact ret0 rfl (congrArg V.bool (by simp [fineB, show s.length ≤ 1024 by omega])) rfl
  · (refine gGr ?_; intros)
    exact ret0 rfl (congrArg V.bool (by simp [fineB, show ¬ s.length ≤ 1024 by omega])) rfl
set_option maxHeartbeats 1000000 in
theorem validCell_spec (c : Cell) : Spec Tryz.prog 66 [.agg c.row] [] (.bool (cellB c)) [] := by
  have sp := fine_spec c.text
  refine gEn env Tryz.func66 fun Γ hN hK hML => ?_
  cases h1 : fineB c.text with
  | false =>
    rw [h1] at sp
    (refine gGo ?_; intros)
    (refine gPC (sp) ?_; conv => whnf)
    (refine gGr ?_; intros)
    exact ret0 rfl (congrArg V.bool (by simp [cellB, h1])) rfl
  | true =>
    rw [h1] at sp
    cases h2 : c.null with
    | false =>
      (refine gGo ?_; intros)
      (refine gPC (sp) ?_; conv => whnf)
      (refine gGo ?_; intros)
      rw [h2]
      conv => whnf
      (refine gGr ?_; intros)
      exact ret0 rfl (congrArg V.bool (by simp [cellB, h1, h2])) rfl
    | true =>
      (refine gGo ?_; intros)
      (refine gPC (sp) ?_; conv => whnf)
      (refine gGo ?_; intros)
      rw [h2]
      conv => whnf
      (refine gGo ?_; intros)
      refine boolRes_split (fun hb => ?_) (fun hb => ?_) <;> conv => whnf
      · (refine gGr ?_; intros)
        exact ret0 rfl (congrArg V.bool (by simp [cellB, h1, h2]; exact hb)) rfl
      · (refine gGr ?_; intros)
        exact ret0 rfl (congrArg V.bool (by simp [cellB, h1, h2]; simpa using hb)) rfl
set_option maxHeartbeats 1000000 in
theorem every_spec (l : List Cell) : Spec Tryz.prog 65 [.sl (cellRows l) false, .fn 66 []] [] (.bool (l.all cellB)) [] := by
  have hl := cellRows_len l
  refine gEn env Tryz.func65 fun Γ hN hK hML => ?_
  (refine gGo ?_; intros)
  refine W.loopG (fun n st => ∃ k : Nat, k ≤ l.length ∧ l.all cellB = (l.drop k).all cellB ∧ n = l.length - k ∧ st = ⟨[(1, .fn 66 []), (7, .sl (cellRows l) false), (8, .int .i64 (cellRows l).length), (9, .int .i64 k)], [], []⟩)
    l.length _ ⟨0, Nat.zero_le _, by simp, by omega, rfl⟩ ⟨[], [], [], .mq .nil⟩ ?_
  rintro n st ⟨k, hk, hall, rfl, rfl⟩
  (refine gGo ?_; intros)
  refine boolRes_split (fun hb => ?_) (fun hb => ?_) <;> conv => whnf
  · have hlt : k < l.length := by omega
    have hget := cellRows_get hlt
    have sp := validCell_spec l[k]
    rw [List.drop_eq_getElem_cons hlt, List.all_cons] at hall
    generalize l[k] = c at *
    (refine gGo ?_; intros)
    refine rowAt_of hget ?_
    conv => whnf
    (refine gGo ?_; intros)
    cases h1 : cellB c with
    | false =>
      rw [h1] at sp hall
      (refine gPC (sp) ?_; conv => whnf)
      (refine gGr ?_; intros)
      exact ret0 rfl (congrArg V.bool (by rw [hall]; rfl)) rfl
    | true =>
      rw [h1] at sp hall
      (refine gPC (sp) ?_; conv => whnf)
      (refine gGo ?_; intros)
      refine ⟨_, _, ?_, ⟨k + 1, by omega, by rw [hall]; rfl, rfl, rfl⟩, ⟨[], [], [], .mq .nil⟩⟩
      omega
  · have hke : k = l.length := by omega
    rw [hke, List.drop_length] at hall
    (refine gGr ?_; intros)
    exact ret0 rfl (congrArg V.bool (by rw [hall]; rfl)) rfl
set_option maxHeartbeats 1000000 in
theorem rows_spec (t : Table) : Spec Tryz.prog 42 [.agg t.row] [] (.int .i64 (rowsN t)) [] := by
  have hl := colRows_len t.cols
  refine gEn env Tryz.func42 fun Γ hN hK hML => ?_
  (refine gGo ?_; intros)
  refine boolRes_split (fun hb => ?_) (fun hb => ?_) <;> conv => whnf
  · have hn : rowsN t = 0 := by
      have h0 : t.cols = [] := List.length_eq_zero_iff.1 (by omega)
      simp only [rowsN, h0]
    rw [hn]
    (refine gGr ?_; intros)
    exact ret0 rfl rfl rfl
  · have hc : ∃ c r, t.cols = c :: r := by
      cases he : t.cols with
      | nil => have h0 : t.cols.length = 0 := by rw [he]; rfl
               omega
      | cons c r => exact ⟨c, r, rfl⟩
    obtain ⟨c, r, he⟩ := hc
    have hn : rowsN t = c.cells.length := by simp only [rowsN, he]
    have hget : (colRows t.cols)[0]? = some c.row := by rw [he]; rfl
    have hcl := cellRows_len c.cells
    rw [hn]
    (refine gGo ?_; intros)
    refine rowAt_of hget ?_
    conv => whnf
    (refine gGr ?_; intros)
    exact ret0 rfl (by rw [← hcl]; rfl) rfl
set_option maxHeartbeats 1000000 in
theorem rows3_spec (t : Table) : Spec Tryz.prog 22 [.agg t.row] [] (.int .i64 (rowsN t)) [] := by
  have hl := colRows_len t.cols
  refine gEn env Tryz.func22 fun Γ hN hK hML => ?_
  (refine gGo ?_; intros)
  refine boolRes_split (fun hb => ?_) (fun hb => ?_) <;> conv => whnf
  · have hn : rowsN t = 0 := by
      have h0 : t.cols = [] := List.length_eq_zero_iff.1 (by omega)
      simp only [rowsN, h0]
    rw [hn]
    (refine gGr ?_; intros)
    exact ret0 rfl rfl rfl
  · have hc : ∃ c r, t.cols = c :: r := by
      cases he : t.cols with
      | nil => have h0 : t.cols.length = 0 := by rw [he]; rfl
               omega
      | cons c r => exact ⟨c, r, rfl⟩
    obtain ⟨c, r, he⟩ := hc
    have hn : rowsN t = c.cells.length := by simp only [rowsN, he]
    have hget : (colRows t.cols)[0]? = some c.row := by rw [he]; rfl
    have hcl := cellRows_len c.cells
    rw [hn]
    (refine gGo ?_; intros)
    refine rowAt_of hget ?_
    conv => whnf
    (refine gGr ?_; intros)
    exact ret0 rfl (by rw [← hcl]; rfl) rfl
end Go.Sx.Sp
namespace Go.Sx.Sp
open Go Go.Sx Go.Proofs
attribute [local irreducible] GoodW
set_option maxHeartbeats 2000000 in
theorem badCol_spec (t : Table) (c : Column) : Spec Tryz.prog 64 [.agg c.row, .ro t.row 0] [] (.bool (badCol t c)) [] := by
  have hcl := cellRows_len c.cells
  have sp1 := fine_spec c.name
  have sp2 := rows_spec t
  have sp3 := every_spec c.cells
  refine gEn env Tryz.func64 fun Γ hN hK hML => ?_
  cases h1 : fineB c.name with
  | false =>
    rw [h1] at sp1
    (refine gGo ?_; intros)
    (refine gPC (sp1) ?_; conv => whnf)
    (refine gGr ?_; intros)
    exact ret0 rfl (congrArg V.bool (by simp [badCol, h1])) rfl
  | true =>
    rw [h1] at sp1
    (refine gGo ?_; intros)
    (refine gPC (sp1) ?_; conv => whnf)
    (refine gGo ?_; intros)
    (refine gPC (sp2) ?_; conv => whnf)
    (refine gGo ?_; intros)
    refine boolRes_split (fun hb => ?_) (fun hb => ?_) <;> conv => whnf
    · have hne : c.cells.length ≠ rowsN t := by omega
      (refine gGr ?_; intros)
      exact ret0 rfl (congrArg V.bool (by simp [badCol, hne])) rfl
    · have hne : c.cells.length = rowsN t := by omega
      cases h3 : c.cells.all cellB with
      | false =>
        rw [h3] at sp3
        (refine gGo ?_; intros)
        (refine gPC (sp3) ?_; conv => whnf)
        (refine gGr ?_; intros)
        exact ret0 rfl (congrArg V.bool (by simp only [badCol, h3]; simp)) rfl
      | true =>
        rw [h3] at sp3
        (refine gGo ?_; intros)
        (refine gPC (sp3) ?_; conv => whnf)
        (refine gGr ?_; intros)
        exact ret0 rfl (congrArg V.bool (by simp only [badCol, h3, h1, hne]; simp)) rfl
set_option maxHeartbeats 2000000 in
theorem indexCol_spec (t : Table) (l : List Column) : Spec Tryz.prog 88 [.sl (colRows l) false, .fn 64 [.ro t.row 0]] [] (.int .i64 (ixFrom (badCol t) l 0)) [] := by
  have hrl : (colRows l).length = l.length := by simp [colRows]
  refine gEn env Tryz.func88 fun Γ hN hK hML => ?_
  (refine gGo ?_; intros)
  refine W.loopG (fun n st => ∃ k : Nat, k ≤ l.length ∧ ixFrom (badCol t) l 0 = ixFrom (badCol t) (l.drop k) k ∧ n = l.length - k ∧ st = ⟨[(0, .sl (colRows l) false), (1, .fn 64 [.ro t.row 0]), (7, .int .i64 (colRows l).length), (8, .int .i64 k)], [], []⟩)
    l.length _ ⟨0, by omega, rfl, by omega, rfl⟩ ⟨[], [], [], .mq .nil⟩ ?_
  rintro n st ⟨k, hk, hix, rfl, rfl⟩
  (refine gGo ?_; intros)
  refine boolRes_split (fun hb => ?_) (fun hb => ?_) <;> conv => whnf
  · have hlt : k < l.length := by omega
    have hx : (colRows l)[k]? = some (l[k]).row := by simp [colRows, hlt]
    have sp := badCol_spec t l[k]
    rw [List.drop_eq_getElem_cons hlt] at hix
    generalize l[k] = x at *
    simp only [ixFrom] at hix
    (refine gGo ?_; intros)
    refine rowAt_of hx ?_
    conv => whnf
    (refine gGo ?_; intros)
    cases hb2 : (badCol t) x with
    | true =>
      rw [hb2] at sp hix
      (refine gPC (sp) ?_; conv => whnf)
      (refine gGr ?_; intros)
      exact ret0 rfl (congrArg (V.int .i64) (by rw [hix]; rfl)) rfl
    | false =>
      rw [hb2] at sp hix
      (refine gPC (sp) ?_; conv => whnf)
      (refine gGo ?_; intros)
      refine ⟨_, _, ?_, ⟨k + 1, by omega, ?_, rfl, rfl⟩, ⟨[], [], [], .mq .nil⟩⟩
      · omega
      · rw [hix]; rfl
  · have hke : k = l.length := by omega
    rw [hke, List.drop_length] at hix
    (refine gGr ?_; intros)
    exact ret0 rfl (congrArg (V.int .i64) (by rw [hix]; rfl)) rfl
set_option maxHeartbeats 2000000 in
theorem containsCol_spec (t : Table) (l : List Column) : Spec Tryz.prog 63 [.sl (colRows l) false, .fn 64 [.ro t.row 0]] [] (.bool (l.any (badCol t))) [] := by
  have hn := ixFrom_nonneg (badCol t) l 0
  refine gEn env Tryz.func63 fun Γ hN hK hML => ?_
  (refine gGo ?_; intros)
  (refine gPC (indexCol_spec t l) ?_; conv => whnf)
  (refine gGo ?_; intros)
  refine boolRes_keep ?_
  conv => whnf
  (refine gGr ?_; intros)
  exact ret0 rfl (congrArg V.bool (by rw [Bool.eq_iff_iff]; simp only [decide_eq_true_eq]; exact hn)) rfl
set_option maxHeartbeats 4000000 in
theorem valid_spec (t : Table) : Spec Tryz.prog 32 [.agg t.row] [] (.bool (validB t)) [] := by
  have hcl := colRows_len t.cols
  have sp1 := fine_spec t.name
  have sp2 := rows_spec t
  have sp3 := containsCol_spec t t.cols
  refine gEn env Tryz.func32 fun Γ hN hK hML => ?_
  (refine gGo ?_; intros)
  refine boolRes_split (fun hb => ?_) (fun hb => ?_) <;> conv => whnf
  · (refine gGr ?_; intros)
    exact ret0 rfl (congrArg V.bool (by simp [validB, headB]; omega)) rfl
  (refine gGo ?_; intros)
  refine boolRes_split (fun hb => ?_) (fun hb => ?_) <;> conv => whnf
  · (refine gGr ?_; intros)
    exact ret0 rfl (congrArg V.bool (by simp [validB, headB]; omega)) rfl
  have e1 : 0 ≤ t.id ∧ t.id ≤ 1073741824 := by omega
  (refine gGo ?_; intros)
  cases h1 : fineB t.name with
  | false =>
    rw [h1] at sp1
    (refine gPC (sp1) ?_; conv => whnf)
    (refine gGr ?_; intros)
    exact ret0 rfl (congrArg V.bool (by simp [validB, headB, h1])) rfl
  | true =>
    rw [h1] at sp1
    (refine gPC (sp1) ?_; conv => whnf)
    (refine gGo ?_; intros)
    refine boolRes_split (fun hb => ?_) (fun hb => ?_) <;> conv => whnf
    · (refine gGr ?_; intros)
      exact ret0 rfl (congrArg V.bool (by simp [validB, headB, show ¬ t.cols.length ≤ 64 by omega])) rfl
    have e2 : t.cols.length ≤ 64 := by omega
    (refine gGo ?_; intros)
    (refine gPC (sp2) ?_; conv => whnf)
    (refine gGo ?_; intros)
    refine boolRes_split (fun hb => ?_) (fun hb => ?_) <;> conv => whnf
    · (refine gGr ?_; intros)
      exact ret0 rfl (congrArg V.bool (by simp [validB, headB, show ¬ rowsN t ≤ 4096 by omega])) rfl
    have e3 : rowsN t ≤ 4096 := by omega
    have hv : validB t = !t.cols.any (badCol t) := by simp [validB, headB, e1, h1, e2, e3]
    refine gD rfl ?_
    refine gF ?_
    conv => whnf
    refine gA ?_
    refine W.leG (mp := []) (bo := [1]) (st' := ⟨[(1, .ro t.row 0)], [], []⟩)
      (LeG.mk' rfl rfl rfl ⟨⟨_, .bp 1 0 3 t.row none rfl rfl (by simp) (.inr rfl), rfl⟩, trivial⟩ .nil rfl rfl (by rw [hK]; rfl)) ?_
    (refine gGo ?_; intros)
    (refine gPC (sp3) ?_; conv => whnf)
    (refine gGr ?_; intros)
    exact ret0 rfl (congrArg V.bool (by rw [hv])) rfl
end Go.Sx.Sp
namespace Go.Sx.Sp
open Go Go.Sx Go.Proofs
attribute [local irreducible] GoodW
set_option maxHeartbeats 1000000 in
theorem valid2_spec (s : Str) : Spec Tryz.prog 91 [.str s] [] (.bool (Lib.validD s)) [] := by
  refine gEn env Tryz.func91 fun Γ hN hK hML => ?_
  (refine gGo ?_; intros)
  (refine gPC (utf8_spec s) ?_; conv => whnf)
  (refine gGr ?_; intros)
  exact ret0 rfl rfl rfl
set_option maxHeartbeats 1000000 in
theorem name3_spec (s : Str) : Spec Tryz.prog 70 [.str s] [] (.bool (fineB s)) [] := by
  have sp := valid2_spec s
  refine gEn env Tryz.func70 fun Γ hN hK hML => ?_
  cases h1 : Lib.validD s with
  | false =>
    rw [h1] at sp
    (refine gGo ?_; intros)
    (refine gPC (sp) ?_; conv => whnf)
    (refine gGr ?_; intros)
    exact ret0 rfl (congrArg V.bool (by simp [fineB, h1])) rfl
  | true =>
    rw [h1] at sp
    (refine gGo ?_; intros)
    (refine gPC (sp) ?_; conv => whnf)
    (refine gGo ?_; intros)
    refine boolRes_split (fun hb => ?_) (fun hb => ?_) <;> conv => whnf
    · (refine gGr ?_; intros)
      exact ret0 rfl (congrArg V.bool (by simp [fineB, h1]; omega)) rfl
    · (refine gGr ?_; intros)
      exact ret0 rfl (congrArg V.bool (by simp [fineB, h1]; omega)) rfl
set_option maxHeartbeats 2000000 in
theorem validCell3_spec (c : Cell) : Spec Tryz.prog 71 [.agg c.row] [] (.bool (cellB c)) [] := by
  have sp := valid2_spec c.text
  refine gEn env Tryz.func71 fun Γ hN hK hML => ?_
  cases h1 : Lib.validD c.text with
  | false =>
    rw [h1] at sp
    (refine gGo ?_; intros)
    (refine gPC (sp) ?_; conv => whnf)
    (refine gGr ?_; intros)
    exact ret0 rfl (congrArg V.bool (by simp [cellB, fineB, h1])) rfl
  | true =>
    rw [h1] at sp
    (refine gGo ?_; intros)
    (refine gPC (sp) ?_; conv => whnf)
    (refine gGo ?_; intros)
    refine boolRes_split (fun hb => ?_) (fun hb => ?_) <;> conv => whnf
    · cases h2 : c.null with
      | false =>
        conv => whnf
        (refine gGr ?_; intros)
        exact ret0 rfl (congrArg V.bool (by simp [cellB, fineB, h1, h2]; omega)) rfl
      | true =>
        conv => whnf
        (refine gGo ?_; intros)
        refine boolRes_split (fun hb => ?_) (fun hb => ?_) <;> conv => whnf
        · (refine gGr ?_; intros)
          exact ret0 rfl (congrArg V.bool (by simp [cellB, fineB, h1, h2]; exact ⟨by omega, by simpa using hb⟩)) rfl
        · (refine gGr ?_; intros)
          exact ret0 rfl (congrArg V.bool (by simp [cellB, fineB, h1, h2]; intro _; simpa using hb)) rfl
    · (refine gGr ?_; intros)
      exact ret0 rfl (congrArg V.bool (by simp [cellB, fineB, h1]; omega)) rfl
set_option maxHeartbeats 4000000 in
theorem valid3_spec (t : Table) : Spec Tryz.prog 38 [.agg t.row] [] (.bool (validB t)) [] := by
  have hcl := colRows_len t.cols
  have sp1 := name3_spec t.name
  refine gEn env Tryz.func38 fun Γ hN hK hML => ?_
  (refine gGo ?_; intros)
  refine boolRes_split (fun hb => ?_) (fun hb => ?_) <;> conv => whnf
  · (refine gGr ?_; intros)
    exact ret0 rfl (congrArg V.bool (by simp [validB, headB]; omega)) rfl
  (refine gGo ?_; intros)
  refine boolRes_split (fun hb => ?_) (fun hb => ?_) <;> conv => whnf
  · (refine gGr ?_; intros)
    exact ret0 rfl (congrArg V.bool (by simp [validB, headB]; omega)) rfl
  have e1 : 0 ≤ t.id ∧ t.id ≤ 1073741824 := by omega
  (refine gGo ?_; intros)
  cases h1 : fineB t.name with
  | false =>
    rw [h1] at sp1
    (refine gPC (sp1) ?_; conv => whnf)
    (refine gGr ?_; intros)
    exact ret0 rfl (congrArg V.bool (by simp [validB, headB, h1])) rfl
  | true =>
    rw [h1] at sp1
    (refine gPC (sp1) ?_; conv => whnf)
    (refine gGo ?_; intros)
    refine boolRes_split (fun hb => ?_) (fun hb => ?_) <;> conv => whnf
    · (refine gGr ?_; intros)
      exact ret0 rfl (congrArg V.bool (by simp [validB, headB, show ¬ t.cols.length ≤ 64 by omega])) rfl
    have e2 : t.cols.length ≤ 64 := by omega
    (refine gGo ?_; intros)
    refine W.loopG (fun n st => ∃ k : Nat, k ≤ t.cols.length ∧ (0 < k → rowsN t ≤ 4096) ∧ t.cols.any (badCol t) = (t.cols.drop k).any (badCol t) ∧ n = t.cols.length - k ∧ st = ⟨[(1, .bp 1 0), (28, .sl (colRows t.cols) false), (29, .int .i64 (colRows t.cols).length), (30, .int .i64 k)], [(1, [.rows 3 [t.row] none])], [1]⟩)
      t.cols.length _ ⟨0, by omega, by omega, by simp, by omega, rfl⟩ ⟨[(1, 1)], [], [], .mq (.ci 1 .nil)⟩ ?_
    rintro n st ⟨k, hk, hr4, hany, rfl, rfl⟩
    (refine gGo ?_; intros)
    refine boolRes_split (fun hb => ?_) (fun hb => ?_) <;> conv => whnf
    · have hlt : k < t.cols.length := by omega
      have hget := colRows_get hlt
      rw [List.drop_eq_getElem_cons hlt, List.any_cons] at hany
      have hc0 : ∃ c0 r, t.cols = c0 :: r := by
        cases he : t.cols with
        | nil => rw [he] at hlt; simp at hlt
        | cons c r => exact ⟨c, r, rfl⟩
      obtain ⟨c0, r, he⟩ := hc0
      have hn : rowsN t = c0.cells.length := by simp only [rowsN, he]
      have hget0 : (colRows t.cols)[0]? = some c0.row := by rw [he]; rfl
      have hcl0 := cellRows_len c0.cells
      generalize hgc : t.cols[k] = c at *
      have spn := name3_spec c.name
      have hclc := cellRows_len c.cells
      (refine gGo ?_; intros)
      refine rowAt_of hget ?_
      conv => whnf
      (refine gGo ?_; intros)
      cases h2 : fineB c.name with
      | false =>
        rw [h2] at spn
        have hbad : badCol t c = true := by simp [badCol, h2]
        (refine gPC (spn) ?_; conv => whnf)
        (refine gGr ?_; intros)
        exact ret0 rfl (congrArg V.bool (by simp [validB, hany, hbad])) rfl
      | true =>
        rw [h2] at spn
        (refine gPC (spn) ?_; conv => whnf)
        (refine gGo ?_; intros)
        refine boolRes_split (fun hb => ?_) (fun hb => ?_) <;> conv => whnf
        · (refine gGr ?_; intros)
          exact ret0 rfl (congrArg V.bool (by
            by_cases h3 : rowsN t ≤ 4096
            · have hbad : badCol t c = true := by simp [badCol, show c.cells.length ≠ rowsN t by omega]
              simp [validB, hany, hbad]
            · simp [validB, headB, h3])) rfl
        (refine gGo ?_; intros)
        refine rowAt_of hget0 ?_
        conv => whnf
        (refine gGo ?_; intros)
        refine boolRes_split (fun hb => ?_) (fun hb => ?_) <;> conv => whnf
        · have hbad : badCol t c = true := by simp [badCol, show c.cells.length ≠ rowsN t by omega]
          (refine gGr ?_; intros)
          exact ret0 rfl (congrArg V.bool (by simp [validB, hany, hbad])) rfl
        have h3 : c.cells.length = rowsN t := by omega
        have h4 : rowsN t ≤ 4096 := by omega
        have hbad : badCol t c = !c.cells.all cellB := by simp [badCol, h2, h3]
        (refine gGo ?_; intros)
        refine W.loopG (fun n st => ∃ j : Nat, j ≤ c.cells.length ∧ c.cells.all cellB = (c.cells.drop j).all cellB ∧ n = c.cells.length - j ∧ st = ⟨[(1, .bp 1 0), (28, .sl (colRows t.cols) false), (29, .int .i64 (colRows t.cols).length), (30, .int .i64 k), (57, .sl (cellRows c.cells) false), (58, .int .i64 (cellRows c.cells).length), (59, .int .i64 j)], [(1, [.rows 3 [t.row] none])], [1]⟩)
          c.cells.length _ ⟨0, by omega, by simp, by omega, rfl⟩ ⟨[(1, 1)], [], [], .mq (.ci 1 .nil)⟩ ?_
        rintro n st ⟨j, hj, hall, rfl, rfl⟩
        (refine gGo ?_; intros)
        refine boolRes_split (fun hb => ?_) (fun hb => ?_) <;> conv => whnf
        · have hltj : j < c.cells.length := by omega
          have hgetj := cellRows_get hltj
          have spc := validCell3_spec c.cells[j]
          rw [List.drop_eq_getElem_cons hltj, List.all_cons] at hall
          generalize c.cells[j] = x at *
          (refine gGo ?_; intros)
          refine rowAt_of hgetj ?_
          conv => whnf
          (refine gGo ?_; intros)
          cases h5 : cellB x with
          | false =>
            rw [h5] at spc hall
            (refine gPC (spc) ?_; conv => whnf)
            (refine gGr ?_; intros)
            exact ret0 rfl (congrArg V.bool (by simp [validB, hany, hbad, hall])) rfl
          | true =>
            rw [h5] at spc hall
            (refine gPC (spc) ?_; conv => whnf)
            (refine gGo ?_; intros)
            refine ⟨_, _, ?_, ⟨j + 1, by omega, by rw [hall]; rfl, rfl, rfl⟩, ⟨[(1, 1)], [], [], .mq (.ci 1 .nil)⟩⟩
            omega
        · have hje : j = c.cells.length := by omega
          rw [hje, List.drop_length] at hall
          have hbad' : badCol t c = false := by simp [hbad, hall]
          (refine gGo ?_; intros)
          refine ⟨_, _, ?_, ⟨k + 1, by omega, fun _ => h4, by rw [hany, hbad']; rfl, rfl, rfl⟩, ⟨[(1, 1)], [], [], .mq (.ci 1 .nil)⟩⟩
          omega
    · have hke : k = t.cols.length := by omega
      have h4 : rowsN t ≤ 4096 := by
        by_cases h0 : 0 < k
        · exact hr4 h0
        · have h0 : t.cols = [] := List.length_eq_zero_iff.1 (by omega)
          simp only [rowsN, h0]; omega
      rw [hke, List.drop_length] at hany
      (refine gGr ?_; intros)
      exact ret0 rfl (congrArg V.bool (by simp [validB, headB, e1, h1, e2, h4, hany])) rfl
end Go.Sx.Sp
