/- Views as the document tells them, which tables contain which rows, drawn tables, and the law. -/
import Derived.Test.YthmohnenobkmcaaDoorJTen
import Derived.Test.YthmohnenobkmcaaDoorJFour
import Derived.Lib.ValidLaws
import Derived.Test.YthmohnenobkmcaaDoorJSix
import Derived.Test.YthmohnenobkmcaaDoorSxFour
set_option linter.unusedVariables false
set_option linter.unusedSimpArgs false
namespace Go.Sx.Sp
open Go Go.Sx Go.Proofs
attribute [local irreducible] GoodW famL
end Go.Sx.Sp
namespace Go.Sx.Sp
open Go Go.Sx Go.Proofs
attribute [local irreducible] GoodW famL
end Go.Sx.Sp
namespace Go.Sx.Sp
open Go Go.Sx Go.Proofs
attribute [local irreducible] GoodW famL
end Go.Sx.Sp
namespace Go.Sx.Sp
open Go Go.Sx Go.Proofs
attribute [local irreducible] GoodW famL
end Go.Sx.Sp
namespace Go.Sx.Sp
open Go Go.Sx Go.Proofs
attribute [local irreducible] GoodW famL
def RectT (t : Table) : Prop := ∀ c ∈ t.cols, c.cells.length = rowsN t
def agB (t : Table) (i : Nat) (rows : Table) (k n : Nat) : Bool := (List.range n).all fun c => (cellT rows c k).null || fitC (cellT rows c k) (cellT t c i)
theorem agB_succ (t : Table) (i : Nat) (rows : Table) (k n : Nat) : agB t i rows k (n + 1) = (agB t i rows k n && ((cellT rows n k).null || fitC (cellT rows n k) (cellT t n i))) := by
  unfold agB
  rw [List.range_succ, List.all_append]
  simp
theorem agB_false {t : Table} {i : Nat} {rows : Table} {k n m : Nat} (h : agB t i rows k (n + 1) = false) (hm : n < m) : agB t i rows k m = false := by
  unfold agB at h ⊢
  rw [List.all_eq_false] at h ⊢
  obtain ⟨c, hc, h2⟩ := h
  exact ⟨c, List.mem_range.2 (by have := List.mem_range.1 hc; omega), h2⟩
def anyB (t rows : Table) (k n : Nat) : Bool := (List.range n).any fun i => agB t i rows k rows.cols.length
theorem anyB_succ (t rows : Table) (k n : Nat) : anyB t rows k (n + 1) = (anyB t rows k n || agB t n rows k rows.cols.length) := by
  unfold anyB
  rw [List.range_succ, List.any_append]
  simp
theorem anyB_true {t rows : Table} {k n m : Nat} (h : anyB t rows k n = true) (hm : n ≤ m) : anyB t rows k m = true := by
  unfold anyB at h ⊢
  rw [List.any_eq_true] at h ⊢
  obtain ⟨c, hc, h2⟩ := h
  exact ⟨c, List.mem_range.2 (by have := List.mem_range.1 hc; omega), h2⟩
def contB (t rows : Table) : Bool := decide (t.cols.length = rows.cols.length) && (List.range (rowsN rows)).all fun k => anyB t rows k (rowsN t)
theorem contB_false {t rows : Table} {k : Nat} (hk : k < rowsN rows) (h : anyB t rows k (rowsN t) = false) : contB t rows = false := by
  unfold contB
  rw [Bool.and_eq_false_iff]
  right
  rw [List.all_eq_false]
  exact ⟨k, List.mem_range.2 hk, by rw [h]; decide⟩
theorem cellT_get {t : Table} (h : RectT t) {c i : Nat} (hc : c < t.cols.length) (hi : i < rowsN t) : (cellRows (t.cols[c]).cells)[i]? = some (cellT t c i).row ∧ (cellRows (t.cols[c]).cells).length = rowsN t := by
  have hl := h _ (List.getElem_mem hc)
  refine ⟨?_, by rw [cellRows_len, hl]⟩
  rw [cellRows_get (by omega)]
  unfold cellT
  rw [List.getD_eq_getElem?_getD (l := t.cols), List.getElem?_eq_getElem hc]
  simp only [Option.getD_some]
  rw [List.getD_eq_getElem?_getD, List.getElem?_eq_getElem (by omega)]; rfl
set_option maxHeartbeats 8000000 in
theorem agrees_spec {t rows : Table} (ht : RectT t) (hr : RectT rows) (hlen : t.cols.length = rows.cols.length) {i k : Nat} (hi : i < rowsN t) (hk : k < rowsN rows) : Spec Tryd.prog 17 [.agg t.row, .int .i64 i, .agg rows.row, .int .i64 k] [] (.bool (agB t i rows k rows.cols.length)) [] := by
  have hcl := colRows_len rows.cols
  have hcl2 := colRows_len t.cols
  refine gEn env Tryd.func17 fun Γ hN hK hML => ?_
  refine gA ?_
  (refine gE env hN (by kernel_rfl) ?_; conv => whnf)
  (refine gGs ?_; intros)
  refine W.leG (mp := []) (bo := [4, 6]) (st' := ⟨[(1, .int .i64 i), (3, .int .i64 k), (4, .ro t.row 0), (6, .ro rows.row 0)], [], []⟩)
    (LeG.mk' rfl rfl rfl ⟨⟨_, .refl _, rfl⟩, ⟨_, .refl _, rfl⟩, ⟨_, .bp 4 0 3 t.row none rfl rfl (by simp [Table.row]) (.inr rfl), rfl⟩, ⟨_, .bp 6 0 3 rows.row none rfl rfl (by simp [Table.row]) (.inr rfl), rfl⟩, trivial⟩ .nil rfl rfl (by rw [hK]; rfl)) ?_
  (refine gGo ?_; intros)
  refine W.leG (mp := []) (bo := []) (st' := ⟨[(1, .int .i64 i), (3, .int .i64 k), (4, .ro t.row 0), (6, .ro rows.row 0), (13, .sl (colRows rows.cols) false), (14, .int .i64 (colRows rows.cols).length), (15, .int .i64 (0 : Nat))], [], []⟩)
    (LeG.mq .nil) ?_
  refine W.loopG (fun m st => ∃ c : Nat, c ≤ rows.cols.length ∧ agB t i rows k c = true ∧ m = rows.cols.length - c ∧ st = ⟨[(1, .int .i64 i), (3, .int .i64 k), (4, .ro t.row 0), (6, .ro rows.row 0), (13, .sl (colRows rows.cols) false), (14, .int .i64 (colRows rows.cols).length), (15, .int .i64 (c : Nat))], [], []⟩)
    rows.cols.length _ ⟨0, by omega, rfl, by omega, rfl⟩ ⟨[], [], [], .mq .nil⟩ ?_
  rintro m st ⟨c, hc, hag, rfl, rfl⟩
  (refine gGo ?_; intros)
  refine boolRes_split (fun hb => ?_) (fun hb => ?_) <;> conv => whnf
  · have hlt : c < rows.cols.length := by omega
    have hlt2 : c < t.cols.length := by omega
    have hg1 := colRows_get hlt
    have hg2 := colRows_get hlt2
    obtain ⟨hx1, hx2⟩ := cellT_get hr hlt hk
    obtain ⟨hy1, hy2⟩ := cellT_get ht hlt2 hi
    have hsn := agB_succ t i rows k c
    have hfa := fun h => agB_false (t := t) (i := i) (rows := rows) (k := k) (n := c) (m := rows.cols.length) h hlt
    rw [hag, Bool.true_and] at hsn
    generalize rows.cols[c] = cr at *
    generalize t.cols[c] = ct at *
    obtain ⟨xn, xt, hx⟩ : ∃ xn xt, cellT rows c k = ⟨xn, xt⟩ := ⟨_, _, rfl⟩
    obtain ⟨yn, yt, hy⟩ : ∃ yn yt, cellT t c i = ⟨yn, yt⟩ := ⟨_, _, rfl⟩
    rw [hx] at hx1 hsn
    rw [hy] at hy1 hsn
    clear hx hy
    have hxr : Cell.row ⟨xn, xt⟩ = [.bool xn, .str xt] := rfl
    have hyr : Cell.row ⟨yn, yt⟩ = [.bool yn, .str yt] := rfl
    rw [hxr] at hx1
    rw [hyr] at hy1
    (refine gGo ?_; intros)
    refine rowAt_of (r := cr.row) (by simpa using hg1) ?_
    conv => whnf
    (refine gGo ?_; intros)
    refine rowAt_of (r := ct.row) (by simpa using hg2) ?_
    conv => whnf
    (refine gGo ?_; intros)
    refine rowAt_of (by simpa using hy1) ?_
    conv => whnf
    (refine gGo ?_; intros)
    refine rowAt_of (by simpa using hx1) ?_
    conv => whnf
    (refine gGo ?_; intros)
    cases xn with
    | true =>
      have hsn2 : agB t i rows k (c + 1) = true := by rw [hsn]; rfl
      conv => whnf
      (refine gGo ?_; intros)
      refine ⟨_, _, ?_, ⟨c + 1, by omega, hsn2, rfl, rfl⟩, ⟨[], [], [], .mq .nil⟩⟩
      omega
    | false =>
      cases yn with
      | true =>
        have hsn2 : agB t i rows k (c + 1) = false := by rw [hsn]; rfl
        rw [hfa hsn2]
        conv => whnf
        (refine gGr ?_; intros)
        exact ret0 rfl rfl rfl
      | false =>
        by_cases he : yt = xt
        · have hsn2 : agB t i rows k (c + 1) = true := by rw [hsn]; unfold fitC; simp [he]
          conv => whnf
          (refine gGo ?_; intros)
          refine rowAt_of (by simpa using hx1) ?_
          conv => whnf
          (refine gGo ?_; intros)
          refine gL (fun hh => hh he) ?_
          conv => whnf
          (refine gGo ?_; intros)
          refine ⟨_, _, ?_, ⟨c + 1, by omega, hsn2, rfl, rfl⟩, ⟨[], [], [], .mq .nil⟩⟩
          omega
        · have hsn2 : agB t i rows k (c + 1) = false := by rw [hsn]; unfold fitC; simp [Ne.symm he]
          rw [hfa hsn2]
          conv => whnf
          (refine gGo ?_; intros)
          refine rowAt_of (by simpa using hx1) ?_
          conv => whnf
          (refine gGr ?_; intros)
          exact ret0 rfl rfl rfl
  · have hce : c = rows.cols.length := by omega
    rw [hce] at hag
    rw [hag]
    (refine gGr ?_; intros)
    exact ret0 rfl rfl rfl
set_option maxHeartbeats 8000000 in
theorem contains_rows_spec {t rows : Table} (ht : RectT t) (hr : RectT rows) (hbt : rowsN t ≤ 1000000) (hbr : rowsN rows ≤ 1000000) : Spec Tryd.prog 9 [.agg t.row, .agg rows.row] [] (.bool (contB t rows)) [] := by
  have hcl := colRows_len rows.cols
  have hcl2 := colRows_len t.cols
  have sp1 := rows_spec t
  have sp2 := rows_spec rows
  refine gEn env Tryd.func9 fun Γ hN hK hML => ?_
  refine gA ?_
  (refine gE env hN (by kernel_rfl) ?_; conv => whnf)
  (refine gGs ?_; intros)
  refine W.leG (mp := []) (bo := [2, 3]) (st' := ⟨[(2, .ro t.row 0), (3, .ro rows.row 0)], [], []⟩)
    (LeG.mk' rfl rfl rfl ⟨⟨_, .bp 2 0 3 t.row none rfl rfl (by simp [Table.row]) (.inr rfl), rfl⟩, ⟨_, .bp 3 0 3 rows.row none rfl rfl (by simp [Table.row]) (.inr rfl), rfl⟩, trivial⟩ .nil rfl rfl (by rw [hK]; rfl)) ?_
  by_cases hlen : t.cols.length = rows.cols.length
  · (refine gGo ?_; intros)
    (refine gPC (sp2) ?_; conv => whnf)
    (refine gGo ?_; intros)
    refine W.leG (mp := []) (bo := []) (st' := ⟨[(2, .ro t.row 0), (3, .ro rows.row 0), (16, .int .i64 (rowsN rows : Nat)), (17, .int .i64 (0 : Nat))], [], []⟩)
      (LeG.mq .nil) ?_
    refine W.loopG (fun m st => ∃ k : Nat, k ≤ rowsN rows ∧ (∀ k', k' < k → anyB t rows k' (rowsN t) = true) ∧ m = rowsN rows - k ∧ st = ⟨[(2, .ro t.row 0), (3, .ro rows.row 0), (16, .int .i64 (rowsN rows : Nat)), (17, .int .i64 (k : Nat))], [], []⟩)
      (rowsN rows) _ ⟨0, by omega, fun k' h => by omega, by omega, rfl⟩ ⟨[], [], [], .mq .nil⟩ ?_
    rintro m st ⟨k, hk, hall, rfl, rfl⟩
    (refine gGo ?_; intros)
    refine boolRes_split (fun hb => ?_) (fun hb => ?_) <;> conv => whnf
    · have hkl : k < rowsN rows := by omega
      have hcf := contB_false (t := t) hkl
      (refine gGo ?_; intros)
      refine W.leG (mp := []) (bo := []) (st' := ⟨[(2, .ro t.row 0), (3, .ro rows.row 0), (16, .int .i64 (rowsN rows : Nat)), (17, .int .i64 (k : Nat)), (5, .int .i64 k), (6, .bool (anyB t rows k 0)), (7, .int .i64 (0 : Nat))], [], []⟩)
        (LeG.mq .nil) ?_
      refine W.loopG (fun m st => ∃ i : Nat, i ≤ rowsN t ∧ m = rowsN t - i ∧ st = ⟨[(2, .ro t.row 0), (3, .ro rows.row 0), (16, .int .i64 (rowsN rows : Nat)), (17, .int .i64 (k : Nat)), (5, .int .i64 k), (6, .bool (anyB t rows k i)), (7, .int .i64 i)], [], []⟩)
        (rowsN t) _ ⟨0, by omega, by omega, rfl⟩ ⟨[], [], [], .mq .nil⟩ ?_
      rintro m st ⟨i, hi, rfl, rfl⟩
      have hsn := anyB_succ t rows k i
      (refine gGo ?_; intros)
      by_cases hil : i < rowsN t
      · have spA := agrees_spec ht hr hlen hil hkl
        have htr := fun h => anyB_true (t := t) (rows := rows) (k := k) (n := i) (m := rowsN t) h hi
        generalize anyB t rows k i = fd at *
        generalize agB t i rows k rows.cols.length = ag at *
        cases fd with
        | true =>
          have htr := htr rfl
          (refine gGo ?_; intros)
          (refine gPC (sp1) ?_; conv => whnf)
          (refine gGo ?_; intros)
          refine ⟨_, _, ?_, ⟨k + 1, by omega, fun k' hk' => ?_, rfl, rfl⟩, ⟨[], [], [], .mq .nil⟩⟩
          · omega
          · by_cases e : k' = k
            · rw [e]; exact htr
            · exact hall k' (by omega)
        | false =>
          rw [Bool.false_or] at hsn
          (refine gGo ?_; intros)
          (refine gPC (sp1) ?_; conv => whnf)
          (refine gGo ?_; intros)
          (refine gPC (spA) ?_; conv => whnf)
          (refine gGo ?_; intros)
          refine ⟨_, _, ?_, ⟨i + 1, by omega, rfl, rfl⟩, [], [], [], LeG.mk' rfl rfl rfl (by rw [hsn]; exact (by repeat' (first | exact trivial | exact ⟨_, .refl _, rfl⟩ | apply And.intro))) .nil rfl rfl (by rw [hK]; rfl)⟩
          omega
      · have hie : i = rowsN t := by omega
        rw [hie]
        cases hfd : anyB t rows k (rowsN t) with
        | true =>
          (refine gGo ?_; intros)
          (refine gPC (sp1) ?_; conv => whnf)
          (refine gGo ?_; intros)
          refine ⟨_, _, ?_, ⟨k + 1, by omega, fun k' hk' => ?_, rfl, rfl⟩, ⟨[], [], [], .mq .nil⟩⟩
          · omega
          · by_cases e : k' = k
            · rw [e]; exact hfd
            · exact hall k' (by omega)
        | false =>
          rw [hcf hfd]
          (refine gGo ?_; intros)
          (refine gPC (sp1) ?_; conv => whnf)
          (refine gGr ?_; intros)
          exact ret0 rfl rfl rfl
    · have hke : k = rowsN rows := by omega
      have hct : contB t rows = true := by
        unfold contB
        rw [decide_eq_true hlen, Bool.true_and, List.all_eq_true]
        intro k' hk'
        exact hall k' (by have := List.mem_range.1 hk'; omega)
      rw [hct]
      (refine gGr ?_; intros)
      exact ret0 rfl rfl rfl
  · have hcf : contB t rows = false := by
      unfold contB
      rw [decide_eq_false hlen, Bool.false_and]
    rw [hcf]
    (refine gGr ?_; intros)
    exact ret0 rfl rfl rfl
end Go.Sx.Sp
namespace Go.Sx.Sp
open Go Go.Sx Go.Proofs
attribute [local irreducible] GoodW famL
def aw5 : Table := ⟨5, [], [⟨[110], [⟨false, [49]⟩, ⟨true, []⟩, ⟨false, [50]⟩]⟩]⟩
def awV : Vw := ⟨⟨5, []⟩, [⟨⟨5, 0⟩, 2, [49]⟩], [⟨5, 0⟩, ⟨5, 0⟩]⟩
def awT : Table := ⟨5, [], [⟨[110], [⟨false, [50]⟩]⟩, ⟨[110], [⟨false, [50]⟩]⟩]⟩
theorem aw_eval : evalV [aw5] awV = (awT, 0) := by kernel_rfl
theorem aw_cont : contB aw5 awT = false := by kernel_rfl
set_option maxHeartbeats 8000000 in
theorem awake34_spec : Spec Tryd.prog 5 [] [] (.bool true) [] := by
  have sp1 := evalV_spec [aw5] awV
  rw [aw_eval] at sp1
  have sp2 := rows3_spec awT
  have sp3 := contains_rows_spec (t := aw5) (rows := awT) (fun c hc => by simp [aw5] at hc; subst hc; rfl) (fun c hc => by simp [awT] at hc; subst hc; rfl) (by decide) (by decide)
  rw [aw_cont] at sp3
  refine gEn env Tryd.func5 fun Γ hN hK hML => ?_
  (refine gGo ?_; intros)
  (refine gPC (sp1) ?_; conv => whnf)
  (refine gGo ?_; intros)
  (refine gPC (sp2) ?_; conv => whnf)
  (refine gGo ?_; intros)
  (refine gPC (sp3) ?_; conv => whnf)
  (refine gGr ?_; intros)
  exact ret0 rfl rfl rfl
end Go.Sx.Sp
namespace Go.Sx.Sp
open Go Go.Sx Go.Proofs
attribute [local irreducible] GoodW famL
def GoodText (s : Str) : Prop := s.length ≤ 100 ∧ ∀ b ∈ s, b.toNat < 128
structure GoodCell (c : Cell) : Prop where
  text : GoodText c.text
  null : c.null = true → c.text = []
def GoodTexts (ws : List Str) : Prop := ∀ s ∈ ws, GoodText s
instance (s : Str) : Decidable (GoodText s) := inferInstanceAs (Decidable (_ ∧ _))
instance (ws : List Str) : Decidable (GoodTexts ws) := inferInstanceAs (Decidable (∀ s ∈ ws, _))
theorem itoa_good {n : Int} (h : -3 ≤ n ∧ n ≤ 100) : GoodText (Lib.itoa n) ∧ (Lib.itoa n).length ≤ 10 := by
  have hk : ∀ k : Fin 104, GoodText (Lib.itoa ((k.val : Int) - 3)) ∧ (Lib.itoa ((k.val : Int) - 3)).length ≤ 10 := by decide +kernel
  have := hk ⟨(n + 3).toNat, by omega⟩
  simp only at this
  rwa [show (((n + 3).toNat : Nat) : Int) - 3 = n by omega] at this
def cellWords : List Str := [[97], [98], [99], [49], [50], [51], [49, 48], [120], [45, 49, 46, 53], [50]]
set_option maxHeartbeats 2000000 in
theorem cell_spec (l : List Int) (p : Nat) (hp : p ≤ l.length) : ∃ (c : Cell) (q : Nat), GoodCell c ∧ q ≤ l.length ∧ Spec Tryd.prog 22 [.bp 0 0] [(0, diceB l p)] (.agg c.row) [(0, diceB l q)] := by
  have hp1 := nextP_le hp
  have sp1 := next_spec l p 7 (by omega) hp
  have hw : GoodTexts cellWords := by decide +kernel
  obtain ⟨s, hs, sp2⟩ := word_spec l (nextP l p) cellWords (by decide) (by decide) hp1
  have hp2 := nextP_le hp1
  generalize nextV l p 7 = v at *
  by_cases hv : v = 1
  · refine ⟨⟨true, []⟩, nextP l p, ⟨by decide, fun _ => rfl⟩, hp1, ?_⟩
    refine gEn env Tryd.func22 fun Γ hN hK hML => ?_
    (refine gGo ?_; intros)
    (refine ⟨_, _, _, callG [(0, 0)] [] [] rfl rfl rfl (by kernel_rfl) (sp1) (by repeat' (first | exact trivial | exact Lent.refl _ | exact Lent.norm _ | exact Lent.whole rfl rfl (by first | rfl | exact List.length_append.symm | exact hlenR | simp) rfl (by first | exact .inl rfl | exact .inr rfl) | apply And.intro)) rfl ⟨rfl, rfl, rfl, rfl, rfl, by repeat' (first | exact trivial | rfl | apply And.intro), rfl, rfl⟩, ?_⟩; conv => whnf)
    (refine gGo ?_; intros)
    (refine gM ?_; conv => whnf)
    exact retH rfl (.refl _) rfl rfl rfl ⟨rfl, rfl, trivial⟩
  · refine ⟨⟨false, s⟩, nextP l (nextP l p), ⟨hw s hs, fun h => by cases h⟩, hp2, ?_⟩
    refine gEn env Tryd.func22 fun Γ hN hK hML => ?_
    (refine gGo ?_; intros)
    (refine ⟨_, _, _, callG [(0, 0)] [] [] rfl rfl rfl (by kernel_rfl) (sp1) (by repeat' (first | exact trivial | exact Lent.refl _ | exact Lent.norm _ | exact Lent.whole rfl rfl (by first | rfl | exact List.length_append.symm | exact hlenR | simp) rfl (by first | exact .inl rfl | exact .inr rfl) | apply And.intro)) rfl ⟨rfl, rfl, rfl, rfl, rfl, by repeat' (first | exact trivial | rfl | apply And.intro), rfl, rfl⟩, ?_⟩; conv => whnf)
    (refine gGo ?_; intros)
    (refine ⟨_, _, _, callG [(0, 0)] [] [] rfl rfl rfl (by kernel_rfl) (sp2) (by repeat' (first | exact trivial | exact Lent.refl _ | exact Lent.norm _ | exact Lent.whole rfl rfl (by first | rfl | exact List.length_append.symm | exact hlenR | simp) rfl (by first | exact .inl rfl | exact .inr rfl) | apply And.intro)) rfl ⟨rfl, rfl, rfl, rfl, rfl, by repeat' (first | exact trivial | rfl | apply And.intro), rfl, rfl⟩, ?_⟩; conv => whnf)
    (refine gGo ?_; intros)
    (refine gM ?_; conv => whnf)
    exact retH rfl (.refl _) rfl rfl rfl ⟨rfl, rfl, trivial⟩
def numWords : List Str := [[120], [], [49, 46, 50, 46, 51], [49, 46, 53, 48]]
set_option maxHeartbeats 2000000 in
theorem number_spec (l : List Int) (p : Nat) (hp : p ≤ l.length) : ∃ (c : Cell) (q : Nat), GoodCell c ∧ q ≤ l.length ∧ Spec Tryd.prog 23 [.bp 0 0] [(0, diceB l p)] (.agg c.row) [(0, diceB l q)] := by
  have hp1 := nextP_le hp
  have sp1 := next_spec l p 9 (by omega) hp
  have hw : GoodTexts numWords := by decide +kernel
  obtain ⟨s, hs, sp2⟩ := word_spec l (nextP l p) numWords (by decide) (by decide) hp1
  have sp3 := next_spec l (nextP l p) 12 (by omega) hp1
  have hr3 := nextV_range l (nextP l p) (n := 12) (by omega)
  have hp2 := nextP_le hp1
  generalize nextV l p 9 = v at *
  generalize nextV l (nextP l p) 12 = v3 at *
  obtain ⟨hi1, hi2⟩ := itoa_good (n := v3 - 3) (by omega)
  have sp4 := itoa_spec (v3 - 3) (by omega) (by omega) (by omega)
  by_cases hv : v = 1
  · refine ⟨⟨true, []⟩, nextP l p, ⟨by decide, fun _ => rfl⟩, hp1, ?_⟩
    refine gEn env Tryd.func23 fun Γ hN hK hML => ?_
    (refine gGo ?_; intros)
    (refine ⟨_, _, _, callG [(0, 0)] [] [] rfl rfl rfl (by kernel_rfl) (sp1) (by repeat' (first | exact trivial | exact Lent.refl _ | exact Lent.norm _ | exact Lent.whole rfl rfl (by first | rfl | exact List.length_append.symm | exact hlenR | simp) rfl (by first | exact .inl rfl | exact .inr rfl) | apply And.intro)) rfl ⟨rfl, rfl, rfl, rfl, rfl, by repeat' (first | exact trivial | rfl | apply And.intro), rfl, rfl⟩, ?_⟩; conv => whnf)
    (refine gGo ?_; intros)
    (refine gM ?_; conv => whnf)
    exact retH rfl (.refl _) rfl rfl rfl ⟨rfl, rfl, trivial⟩
  by_cases hv2 : v = 2
  · refine ⟨⟨false, s⟩, nextP l (nextP l p), ⟨hw s hs, fun h => by cases h⟩, hp2, ?_⟩
    refine gEn env Tryd.func23 fun Γ hN hK hML => ?_
    (refine gGo ?_; intros)
    (refine ⟨_, _, _, callG [(0, 0)] [] [] rfl rfl rfl (by kernel_rfl) (sp1) (by repeat' (first | exact trivial | exact Lent.refl _ | exact Lent.norm _ | exact Lent.whole rfl rfl (by first | rfl | exact List.length_append.symm | exact hlenR | simp) rfl (by first | exact .inl rfl | exact .inr rfl) | apply And.intro)) rfl ⟨rfl, rfl, rfl, rfl, rfl, by repeat' (first | exact trivial | rfl | apply And.intro), rfl, rfl⟩, ?_⟩; conv => whnf)
    (refine gGo ?_; intros)
    (refine ⟨_, _, _, callG [(0, 0)] [] [] rfl rfl rfl (by kernel_rfl) (sp2) (by repeat' (first | exact trivial | exact Lent.refl _ | exact Lent.norm _ | exact Lent.whole rfl rfl (by first | rfl | exact List.length_append.symm | exact hlenR | simp) rfl (by first | exact .inl rfl | exact .inr rfl) | apply And.intro)) rfl ⟨rfl, rfl, rfl, rfl, rfl, by repeat' (first | exact trivial | rfl | apply And.intro), rfl, rfl⟩, ?_⟩; conv => whnf)
    (refine gGo ?_; intros)
    (refine gM ?_; conv => whnf)
    exact retH rfl (.refl _) rfl rfl rfl ⟨rfl, rfl, trivial⟩
  · refine ⟨⟨false, Lib.itoa (v3 - 3)⟩, nextP l (nextP l p), ⟨hi1, fun h => by cases h⟩, hp2, ?_⟩
    refine gEn env Tryd.func23 fun Γ hN hK hML => ?_
    (refine gGo ?_; intros)
    (refine ⟨_, _, _, callG [(0, 0)] [] [] rfl rfl rfl (by kernel_rfl) (sp1) (by repeat' (first | exact trivial | exact Lent.refl _ | exact Lent.norm _ | exact Lent.whole rfl rfl (by first | rfl | exact List.length_append.symm | exact hlenR | simp) rfl (by first | exact .inl rfl | exact .inr rfl) | apply And.intro)) rfl ⟨rfl, rfl, rfl, rfl, rfl, by repeat' (first | exact trivial | rfl | apply And.intro), rfl, rfl⟩, ?_⟩; conv => whnf)
    (refine gGo ?_; intros)
    (refine ⟨_, _, _, callG [(0, 0)] [] [] rfl rfl rfl (by kernel_rfl) (sp3) (by repeat' (first | exact trivial | exact Lent.refl _ | exact Lent.norm _ | exact Lent.whole rfl rfl (by first | rfl | exact List.length_append.symm | exact hlenR | simp) rfl (by first | exact .inl rfl | exact .inr rfl) | apply And.intro)) rfl ⟨rfl, rfl, rfl, rfl, rfl, by repeat' (first | exact trivial | rfl | apply And.intro), rfl, rfl⟩, ?_⟩; conv => whnf)
    (refine gGo ?_; intros)
    (refine gPC (sp4) ?_; conv => whnf)
    (refine gGo ?_; intros)
    (refine gM ?_; conv => whnf)
    exact retH rfl (.refl _) rfl rfl rfl ⟨rfl, rfl, trivial⟩
end Go.Sx.Sp
namespace Go.Sx.Sp
open Go Go.Sx Go.Proofs
attribute [local irreducible] GoodW famL
noncomputable def cellK (l : List Int) (p : Nat) : Cell × Nat := if h : p ≤ l.length then (Classical.choose (cell_spec l p h), Classical.choose (Classical.choose_spec (cell_spec l p h))) else (⟨true, []⟩, p)
theorem cellK_spec {l : List Int} {p : Nat} (h : p ≤ l.length) : GoodCell (cellK l p).1 ∧ (cellK l p).2 ≤ l.length ∧ Spec Tryd.prog 22 [.bp 0 0] [(0, diceB l p)] (.agg (cellK l p).1.row) [(0, diceB l (cellK l p).2)] := by
  have := Classical.choose_spec (Classical.choose_spec (cell_spec l p h))
  simp only [cellK, dif_pos h]
  exact this
noncomputable def numF (l : List Int) (p : Nat) : Cell × Nat := if h : p ≤ l.length then (Classical.choose (number_spec l p h), Classical.choose (Classical.choose_spec (number_spec l p h))) else (⟨true, []⟩, p)
theorem numF_spec {l : List Int} {p : Nat} (h : p ≤ l.length) : GoodCell (numF l p).1 ∧ (numF l p).2 ≤ l.length ∧ Spec Tryd.prog 23 [.bp 0 0] [(0, diceB l p)] (.agg (numF l p).1.row) [(0, diceB l (numF l p).2)] := by
  have := Classical.choose_spec (Classical.choose_spec (number_spec l p h))
  simp only [numF, dif_pos h]
  exact this
theorem seqK_ok {α : Type} {step : Nat → Nat → α × Nat} {L : Nat} {Q : α → Prop} {B : Nat} (h : ∀ i p, i < B → p ≤ L → Q (step i p).1 ∧ (step i p).2 ≤ L) : ∀ n i p, n + i ≤ B → p ≤ L → (∀ x ∈ (seqF step n i p).1, Q x) ∧ (seqF step n i p).2 ≤ L
  | 0, _, p, _, hp => ⟨fun x hx => (by cases hx), hp⟩
  | n + 1, i, p, hB, hp => by
    obtain ⟨h1, h2⟩ := h i p (by omega) hp
    obtain ⟨h3, h4⟩ := seqK_ok h n (i + 1) _ (by omega) h2
    refine ⟨fun x hx => ?_, h4⟩
    simp only [seqF, List.mem_cons] at hx
    rcases hx with rfl | hx
    · exact h1
    · exact h3 x hx
def colNames : List Str := [[105, 100], [110, 97, 109, 101], [85, 110, 105, 116, 32, 80, 114, 105, 99, 101], [99, 105, 116, 121], [117, 110, 105, 116], [112, 114, 105, 99, 101], [105, 100, 50], []]
def abcd : List Str := [[97], [98], [99], [100]]
noncomputable def colStep (l : List Int) (kind : Int) (i p : Nat) : Cell × Nat :=
  if kind = 0 then numF l (cellK l p).2
  else if kind = 1 then (⟨false, 107 :: Lib.itoa i⟩, (cellK l p).2)
  else if kind = 2 then (⟨false, wordF abcd l (cellK l p).2⟩, nextP l (cellK l p).2)
  else cellK l p
theorem colStep_ok {l : List Int} {kind : Int} {i p : Nat} (hi : i < 100) (hp : p ≤ l.length) : GoodCell (colStep l kind i p).1 ∧ (colStep l kind i p).2 ≤ l.length := by
  obtain ⟨h1, h2, _⟩ := cellK_spec hp
  unfold colStep
  split
  · obtain ⟨h3, h4, _⟩ := numF_spec h2; exact ⟨h3, h4⟩
  · split
    · obtain ⟨⟨h3, h5⟩, h4⟩ := itoa_good (n := (i : Int)) (by omega)
      refine ⟨⟨⟨by simp only [List.length_cons]; omega, fun b hb => ?_⟩, fun h => by cases h⟩, h2⟩
      rcases List.mem_cons.1 hb with rfl | hb
      · decide
      · exact h5 b hb
    · split
      · have hw : GoodTexts abcd := by decide +kernel
        obtain ⟨h3, _⟩ := wordF_spec (ws := abcd) (by decide) (by decide) h2
        exact ⟨⟨hw _ h3, fun h => by cases h⟩, nextP_le h2⟩
      · exact ⟨h1, h2⟩
noncomputable def colK (l : List Int) (n p : Nat) : Column × Nat :=
  (⟨wordF colNames l p, (seqF (colStep l (nextV l (nextP l p) 5)) n 0 (nextP l (nextP l p))).1⟩, (seqF (colStep l (nextV l (nextP l p) 5)) n 0 (nextP l (nextP l p))).2)
set_option maxHeartbeats 8000000 in
theorem kcolumn_spec (l : List Int) (n p : Nat) (hn : n ≤ 50) (hp : p ≤ l.length) : Spec Tryd.prog 14 [.bp 0 0, .int .i64 n] [(0, diceB l p)] (.agg (colK l n p).1.row) [(0, diceB l (colK l n p).2)] := by
  have hp1 := nextP_le hp
  have hp2 := nextP_le hp1
  obtain ⟨_, sp1⟩ := wordF_spec (ws := colNames) (by decide) (by decide) hp
  have sp2 := next_spec l (nextP l p) 5 (by omega) hp1
  have hdef : colK l n p = (⟨wordF colNames l p, (seqF (colStep l (nextV l (nextP l p) 5)) n 0 (nextP l (nextP l p))).1⟩, (seqF (colStep l (nextV l (nextP l p) 5)) n 0 (nextP l (nextP l p))).2) := rfl
  rw [hdef]
  generalize hs : seqF (colStep l (nextV l (nextP l p) 5)) n 0 (nextP l (nextP l p)) = res
  generalize nextV l (nextP l p) 5 = kind at *
  generalize nextP l (nextP l p) = p2 at *
  generalize nextP l p = p1 at *
  generalize wordF colNames l p = name at *
  clear hdef
  refine gEn env Tryd.func14 fun Γ hN hK hML => ?_
  (refine gGo ?_; intros)
  (refine ⟨_, _, _, callG [(0, 0)] [] [] rfl rfl rfl (by kernel_rfl) (sp1) (by repeat' (first | exact trivial | exact Lent.refl _ | exact Lent.norm _ | exact Lent.whole rfl rfl (by first | rfl | exact List.length_append.symm | exact hlenR | simp) rfl (by first | exact .inl rfl | exact .inr rfl) | apply And.intro)) rfl ⟨rfl, rfl, rfl, rfl, rfl, by repeat' (first | exact trivial | rfl | apply And.intro), rfl, rfl⟩, ?_⟩; conv => whnf)
  (refine gGo ?_; intros)
  (refine ⟨_, _, _, callG [(0, 0)] [] [] rfl rfl rfl (by kernel_rfl) (sp2) (by repeat' (first | exact trivial | exact Lent.refl _ | exact Lent.norm _ | exact Lent.whole rfl rfl (by first | rfl | exact List.length_append.symm | exact hlenR | simp) rfl (by first | exact .inl rfl | exact .inr rfl) | apply And.intro)) rfl ⟨rfl, rfl, rfl, rfl, rfl, by repeat' (first | exact trivial | rfl | apply And.intro), rfl, rfl⟩, ?_⟩; conv => whnf)
  (refine gGo ?_; intros)
  refine W.ownCell 5 0 1 60 2 rfl rfl rfl rfl rfl ?_
  refine W.loopG (fun m st => ∃ (j q : Nat) (out : List Cell), j ≤ n ∧ q ≤ l.length ∧ out.length = j ∧ res = (out ++ (seqF (colStep l kind) (n - j) j q).1, (seqF (colStep l kind) (n - j) j q).2) ∧ m = n - j ∧ st = ⟨[(0, .bp 0 0), (4, .bp 4 0), (5, .bp 5 0), (6, .int .i64 kind), (15, .int .i64 n), (16, .int .i64 j)], [(0, [diceB l q]), (4, [.rows 2 [[.str [], .nils]] none]), (5, [.rows 2 [[.str name, .osl 60 0 0 (cellRows out).length (cellRows out).length]] none]), (60, [.rows 2 (cellRows out) (some [])])], [0, 4, 5, 60]⟩)
    n _ ⟨0, p2, [], by omega, hp2, rfl, by rw [← hs]; rfl, by omega, rfl⟩ ⟨[(0, 0), (4, 4), (5, 5), (60, 60)], [], [], .mq (.ci 0 (.ci 4 (.ci 5 (.ci 60 .nil))))⟩ ?_
  rintro m st ⟨j, q, out, hj, hq, ho, he, rfl, rfl⟩
  have hol := cellRows_len out
  (refine gGo ?_; intros)
  refine boolRes_split (fun hb => ?_) (fun hb => ?_) <;> conv => whnf
  · have hlt : j < n := by omega
    obtain ⟨hc1, hc2, hc3⟩ := cellK_spec hq
    have hstep := colStep_ok (l := l) (kind := kind) (i := j) (by omega) hq
    rw [show n - j = (n - (j + 1)) + 1 by omega] at he
    simp only [seqF] at he
    (refine gGo ?_; intros)
    (refine ⟨_, _, _, callG [(0, 0)] [] [] rfl rfl rfl (by kernel_rfl) (hc3) (by repeat' (first | exact trivial | exact Lent.refl _ | exact Lent.norm _ | exact Lent.whole rfl rfl (by first | rfl | exact List.length_append.symm | exact hlenR | simp) rfl (by first | exact .inl rfl | exact .inr rfl) | apply And.intro)) rfl ⟨rfl, rfl, rfl, rfl, rfl, by repeat' (first | exact trivial | rfl | apply And.intro), rfl, rfl⟩, ?_⟩; conv => whnf)
    (refine gGo ?_; intros)
    refine boolRes_split (fun hb => ?_) (fun hb => ?_) <;> conv => whnf
    · have hk : colStep l kind j q = numF l (cellK l q).2 := by simp [colStep, hb]
      obtain ⟨hn1, hn2, hn3⟩ := numF_spec hc2
      rw [hk] at he hstep
      (refine gGo ?_; intros)
      (refine ⟨_, _, _, callG [(0, 0)] [] [] rfl rfl rfl (by kernel_rfl) (hn3) (by repeat' (first | exact trivial | exact Lent.refl _ | exact Lent.norm _ | exact Lent.whole rfl rfl (by first | rfl | exact List.length_append.symm | exact hlenR | simp) rfl (by first | exact .inl rfl | exact .inr rfl) | apply And.intro)) rfl ⟨rfl, rfl, rfl, rfl, rfl, by repeat' (first | exact trivial | rfl | apply And.intro), rfl, rfl⟩, ?_⟩; conv => whnf)
      (refine gGo ?_; intros)
      refine ⟨⟨rowsSz_cons rfl rowsSz_nil, rfl⟩, fitsN (n := (cellRows out).length + 1) (b := 24) (by omega) (by omega), .inl ⟨rfl, rfl, ?_⟩⟩
      conv => whnf
      (refine gGo ?_; intros)
      refine ⟨_, _, ?_, ⟨j + 1, _, out ++ [_], by omega, hstep.2, by simp; omega, (by rw [he, List.append_cons]), rfl, rfl⟩, [(0, 0), (4, 4), (5, 5), (60, 60)], [], [], LeG.mq (.ci 0 (.ci 4 (.cons 5 rfl rfl (.refl _) ?_ (.cons 60 rfl rfl (.refl _) ?_ .nil))))⟩
      · omega
      · rw [cellRows_snoc, List.length_append]; rfl
      · rw [cellRows_snoc]; rfl
    (refine gGo ?_; intros)
    refine boolRes_split (fun hb => ?_) (fun hb => ?_) <;> conv => whnf
    · have hk : colStep l kind j q = (⟨false, 107 :: Lib.itoa j⟩, (cellK l q).2) := by simp [colStep, hb]
      obtain ⟨hi1, hi2⟩ := itoa_good (n := (j : Int)) (by omega)
      have sp4 := itoa_spec (j : Int) (by omega) (by omega) (by omega)
      rw [hk] at he hstep
      (refine gGo ?_; intros)
      (refine gPC (sp4) ?_; conv => whnf)
      (refine gGo ?_; intros)
      refine And.intro (by show [107].length + (Lib.itoa j).length ≤ _; simp only [List.length_singleton]; omega) ?_
      conv => whnf
      (refine gGo ?_; intros)
      refine ⟨⟨rowsSz_cons rfl rowsSz_nil, rfl⟩, fitsN (n := (cellRows out).length + 1) (b := 24) (by omega) (by omega), .inl ⟨rfl, rfl, ?_⟩⟩
      conv => whnf
      (refine gGo ?_; intros)
      refine ⟨_, _, ?_, ⟨j + 1, _, out ++ [_], by omega, hstep.2, by simp; omega, (by rw [he, List.append_cons]), rfl, rfl⟩, [(0, 0), (4, 4), (5, 5), (60, 60)], [], [], LeG.mq (.ci 0 (.ci 4 (.cons 5 rfl rfl (.refl _) ?_ (.cons 60 rfl rfl (.refl _) ?_ .nil))))⟩
      · omega
      · rw [cellRows_snoc, List.length_append]; rfl
      · rw [cellRows_snoc]; rfl
    (refine gGo ?_; intros)
    refine boolRes_split (fun hb => ?_) (fun hb => ?_) <;> conv => whnf
    · have hk : colStep l kind j q = (⟨false, wordF abcd l (cellK l q).2⟩, nextP l (cellK l q).2) := by simp [colStep, hb]
      obtain ⟨_, sp5⟩ := wordF_spec (ws := abcd) (by decide) (by decide) hc2
      rw [hk] at he hstep
      (refine gGo ?_; intros)
      (refine ⟨_, _, _, callG [(0, 0)] [] [] rfl rfl rfl (by kernel_rfl) (sp5) (by repeat' (first | exact trivial | exact Lent.refl _ | exact Lent.norm _ | exact Lent.whole rfl rfl (by first | rfl | exact List.length_append.symm | exact hlenR | simp) rfl (by first | exact .inl rfl | exact .inr rfl) | apply And.intro)) rfl ⟨rfl, rfl, rfl, rfl, rfl, by repeat' (first | exact trivial | rfl | apply And.intro), rfl, rfl⟩, ?_⟩; conv => whnf)
      (refine gGo ?_; intros)
      refine ⟨⟨rowsSz_cons rfl rowsSz_nil, rfl⟩, fitsN (n := (cellRows out).length + 1) (b := 24) (by omega) (by omega), .inl ⟨rfl, rfl, ?_⟩⟩
      conv => whnf
      (refine gGo ?_; intros)
      refine ⟨_, _, ?_, ⟨j + 1, _, out ++ [_], by omega, hstep.2, by simp; omega, (by rw [he, List.append_cons]), rfl, rfl⟩, [(0, 0), (4, 4), (5, 5), (60, 60)], [], [], LeG.mq (.ci 0 (.ci 4 (.cons 5 rfl rfl (.refl _) ?_ (.cons 60 rfl rfl (.refl _) ?_ .nil))))⟩
      · omega
      · rw [cellRows_snoc, List.length_append]; rfl
      · rw [cellRows_snoc]; rfl
    · have hk : colStep l kind j q = cellK l q := by
        unfold colStep
        rw [if_neg (by assumption), if_neg (by assumption), if_neg hb]
      rw [hk] at he hstep
      (refine gGo ?_; intros)
      refine ⟨⟨rowsSz_cons rfl rowsSz_nil, rfl⟩, fitsN (n := (cellRows out).length + 1) (b := 24) (by omega) (by omega), .inl ⟨rfl, rfl, ?_⟩⟩
      conv => whnf
      (refine gGo ?_; intros)
      refine ⟨_, _, ?_, ⟨j + 1, _, out ++ [_], by omega, hstep.2, by simp; omega, (by rw [he, List.append_cons]), rfl, rfl⟩, [(0, 0), (4, 4), (5, 5), (60, 60)], [], [], LeG.mq (.ci 0 (.ci 4 (.cons 5 rfl rfl (.refl _) ?_ (.cons 60 rfl rfl (.refl _) ?_ .nil))))⟩
      · omega
      · rw [cellRows_snoc, List.length_append]; rfl
      · rw [cellRows_snoc]; rfl
  · have hje : j = n := by omega
    rw [hje, Nat.sub_self] at he
    simp only [seqF, List.append_nil] at he
    rw [he]
    (refine gGo ?_; intros)
    refine W.leG (mp := [(0, 0), (4, 4)]) (bo := [60]) (st' := ⟨[(4, .bp 4 0)], [(0, [diceB l q]), (4, [.rows 2 [Column.row ⟨name, out⟩] none])], [0, 4]⟩)
      (LeG.mq (.ci 0 (.cons 4 (b1 := .rows 2 [Column.row ⟨name, out⟩] none) rfl rfl (.rows _ _ _ (by repeat' (first | exact trivial | exact ⟨Lent.refl _, rfl⟩ | exact ⟨Lent.norm _, rfl⟩ | exact ⟨Lent.whole rfl rfl (by first | rfl | exact List.length_append.symm | exact hlenR | simp) rfl (by first | exact .inl rfl | exact .inr rfl), rfl⟩ | apply And.intro))) rfl .nil))) ?_
    (refine gM ?_; conv => whnf)
    exact retH rfl (.refl _) rfl rfl rfl ⟨rfl, rfl, trivial⟩
end Go.Sx.Sp
namespace Go.Sx.Sp
open Go Go.Sx Go.Proofs
attribute [local irreducible] GoodW famL
structure GoodCol (n : Nat) (c : Column) : Prop where
  name : GoodText c.name
  len : c.cells.length = n
  cells : ∀ x ∈ c.cells, GoodCell x
structure GoodTab (t : Table) : Prop where
  name : GoodText t.name
  few : t.cols.length ≤ 3
  cols : ∃ n, n ≤ 6 ∧ ∀ c ∈ t.cols, GoodCol n c
theorem colK_ok {l : List Int} {n p : Nat} (hn : n ≤ 50) (hp : p ≤ l.length) : GoodCol n (colK l n p).1 ∧ (colK l n p).2 ≤ l.length := by
  have hp1 := nextP_le hp
  have hp2 := nextP_le hp1
  have hw : GoodTexts colNames := by decide +kernel
  obtain ⟨h1, _⟩ := wordF_spec (ws := colNames) (by decide) (by decide) hp
  obtain ⟨h2, h3⟩ := seqK_ok (step := colStep l (nextV l (nextP l p) 5)) (Q := GoodCell) (B := 100) (fun i p hi hp => colStep_ok hi hp) n 0 _ (by omega) hp2
  exact ⟨⟨hw _ h1, seqF_len _ _ _ _, h2⟩, h3⟩
def tblNames : List Str := [[116], [111, 114, 100, 101, 114, 115], []]
noncomputable def tblC (l : List Int) (p : Nat) : List Column × Nat :=
  seqF (fun _ q => colK l (nextV l (nextP l p) 7).toNat q) (1 + (nextV l (nextP l (nextP l p)) 3).toNat) 0 (nextP l (nextP l (nextP l p)))
noncomputable def tblF (l : List Int) (id : Int) (p : Nat) : Table × Nat :=
  (⟨id, wordF tblNames l p, if nextV l (tblC l p).2 15 = 1 then [] else (tblC l p).1⟩, nextP l (tblC l p).2)
theorem tblC_ok {l : List Int} {p : Nat} (hp : p ≤ l.length) : ((tblC l p).1.length ≤ 3 ∧ ∀ c ∈ (tblC l p).1, GoodCol (nextV l (nextP l p) 7).toNat c) ∧ (tblC l p).2 ≤ l.length := by
  have hp1 := nextP_le hp
  have hp2 := nextP_le hp1
  have hp3 := nextP_le hp2
  have hr := nextV_range l (nextP l p) (n := 7) (by omega)
  have hr2 := nextV_range l (nextP l (nextP l p)) (n := 3) (by omega)
  obtain ⟨h2, h3⟩ := seqK_ok (step := fun _ q => colK l (nextV l (nextP l p) 7).toNat q) (Q := GoodCol (nextV l (nextP l p) 7).toNat) (B := 100) (fun i q hi hq => colK_ok (by omega) hq) (1 + (nextV l (nextP l (nextP l p)) 3).toNat) 0 _ (by omega) hp3
  exact ⟨⟨by unfold tblC; rw [seqF_len]; omega, h2⟩, h3⟩
theorem tblF_ok {l : List Int} {id : Int} {p : Nat} (hp : p ≤ l.length) : GoodTab (tblF l id p).1 ∧ (tblF l id p).1.id = id ∧ (tblF l id p).2 ≤ l.length := by
  have hw : GoodTexts tblNames := by decide +kernel
  obtain ⟨h1, _⟩ := wordF_spec (ws := tblNames) (by decide) (by decide) hp
  obtain ⟨⟨h2, h3⟩, h4⟩ := tblC_ok hp
  have hr := nextV_range l (nextP l p) (n := 7) (by omega)
  refine ⟨⟨hw _ h1, ?_, (nextV l (nextP l p) 7).toNat, by omega, ?_⟩, rfl, nextP_le h4⟩
  · simp only [tblF]; split
    · simp
    · exact h2
  · simp only [tblF]; split
    · simp
    · exact h3
set_option maxHeartbeats 8000000 in
theorem table_spec (l : List Int) (id : Int) (p : Nat) (hp : p ≤ l.length) : Spec Tryd.prog 7 [.bp 0 0, .int .i64 id] [(0, diceB l p)] (.agg (tblF l id p).1.row) [(0, diceB l (tblF l id p).2)] := by
  have hp1 := nextP_le hp
  have hp2 := nextP_le hp1
  have hp3 := nextP_le hp2
  obtain ⟨_, hp4⟩ := tblC_ok hp
  obtain ⟨_, sp1⟩ := wordF_spec (ws := tblNames) (by decide) (by decide) hp
  have sp2 := next_spec l (nextP l p) 7 (by omega) hp1
  have sp3 := next_spec l (nextP l (nextP l p)) 3 (by omega) hp2
  have sp4 := next_spec l (tblC l p).2 15 (by omega) hp4
  have hr := nextV_range l (nextP l p) (n := 7) (by omega)
  have hr2 := nextV_range l (nextP l (nextP l p)) (n := 3) (by omega)
  have hdef : tblF l id p = (⟨id, wordF tblNames l p, if nextV l (tblC l p).2 15 = 1 then [] else (tblC l p).1⟩, nextP l (tblC l p).2) := rfl
  have hC : tblC l p = seqF (fun _ q => colK l (nextV l (nextP l p) 7).toNat q) (1 + (nextV l (nextP l (nextP l p)) 3).toNat) 0 (nextP l (nextP l (nextP l p))) := rfl
  obtain ⟨n, hn⟩ := Int.eq_ofNat_of_zero_le hr.1
  obtain ⟨k3, hk3⟩ := Int.eq_ofNat_of_zero_le hr2.1
  rw [hdef]
  rw [hn] at sp2 hr hC
  rw [hk3] at sp3 hr2 hC
  rw [Int.toNat_natCast, Int.toNat_natCast] at hC
  generalize tblC l p = res at *
  generalize nextV l res.2 15 = v15 at *
  generalize nextP l (nextP l (nextP l p)) = p3 at *
  generalize nextP l (nextP l p) = p2 at *
  generalize nextP l p = p1 at *
  generalize wordF tblNames l p = name at *
  clear hdef
  refine gEn env Tryd.func7 fun Γ hN hK hML => ?_
  (refine gGo ?_; intros)
  (refine ⟨_, _, _, callG [(0, 0)] [] [] rfl rfl rfl (by kernel_rfl) (sp1) (by repeat' (first | exact trivial | exact Lent.refl _ | exact Lent.norm _ | exact Lent.whole rfl rfl (by first | rfl | exact List.length_append.symm | exact hlenR | simp) rfl (by first | exact .inl rfl | exact .inr rfl) | apply And.intro)) rfl ⟨rfl, rfl, rfl, rfl, rfl, by repeat' (first | exact trivial | rfl | apply And.intro), rfl, rfl⟩, ?_⟩; conv => whnf)
  (refine gGo ?_; intros)
  (refine ⟨_, _, _, callG [(0, 0)] [] [] rfl rfl rfl (by kernel_rfl) (sp2) (by repeat' (first | exact trivial | exact Lent.refl _ | exact Lent.norm _ | exact Lent.whole rfl rfl (by first | rfl | exact List.length_append.symm | exact hlenR | simp) rfl (by first | exact .inl rfl | exact .inr rfl) | apply And.intro)) rfl ⟨rfl, rfl, rfl, rfl, rfl, by repeat' (first | exact trivial | rfl | apply And.intro), rfl, rfl⟩, ?_⟩; conv => whnf)
  (refine gGo ?_; intros)
  (refine ⟨_, _, _, callG [(0, 0)] [] [] rfl rfl rfl (by kernel_rfl) (sp3) (by repeat' (first | exact trivial | exact Lent.refl _ | exact Lent.norm _ | exact Lent.whole rfl rfl (by first | rfl | exact List.length_append.symm | exact hlenR | simp) rfl (by first | exact .inl rfl | exact .inr rfl) | apply And.intro)) rfl ⟨rfl, rfl, rfl, rfl, rfl, by repeat' (first | exact trivial | rfl | apply And.intro), rfl, rfl⟩, ?_⟩; conv => whnf)
  (refine gGo ?_; intros)
  refine W.ownCell 5 0 2 60 2 rfl rfl rfl rfl rfl ?_
  refine W.loopG (fun m st => ∃ (j i q : Nat) (out : List Column), j ≤ 3 ∧ q ≤ l.length ∧ out.length + j ≤ 3 ∧ res = (out ++ (seqF (fun _ q => colK l n q) j i q).1, (seqF (fun _ q => colK l n q) j i q).2) ∧ m = j ∧ st = ⟨[(0, .bp 0 0), (4, .bp 4 0), (5, .bp 5 0), (6, .int .i64 n), (7, .int .i64 j)], [(0, [diceB l q]), (4, [.rows 3 [[.int .i64 0, .str [], .nils]] none]), (5, [.rows 3 [[.int .i64 id, .str name, .osl 60 0 0 (colRows out).length (colRows out).length]] none]), (60, [.rows 2 (colRows out) (some [])])], [0, 4, 5, 60]⟩)
    (1 + k3) _ ⟨1 + k3, 0, p3, [], by omega, hp3, by simp; omega, by rw [hC]; rfl, rfl, rfl⟩ ?_ ?_
  · exact ⟨[(0, 0), (4, 4), (5, 5), (60, 60)], [], [], LeG.mk' rfl rfl rfl (by repeat' (first | exact trivial | exact ⟨_, .refl _, rfl⟩ | exact ⟨_, .refl _, by show V.int .i64 (1 + (k3 : Int)) = V.int .i64 ((1 + k3 : Nat) : Int); congr 1⟩ | apply And.intro)) (.ci 0 (.ci 4 (.ci 5 (.ci 60 .nil)))) rfl rfl (by rw [hK]; rfl)⟩
  rintro m st ⟨j, i, q, out, hj, hq, ho, he, rfl, rfl⟩
  have hol := colRows_len out
  rcases m with _ | j
  · have h0 : ((0 : Nat) : Int) = 0 := rfl
    simp only [seqF, List.append_nil] at he
    have hq2 : res.2 = q := by rw [he]
    have ho2 : res.1 = out := by rw [he]
    rw [hq2] at sp4
    rw [hq2, ho2]
    clear he
    (refine gGo ?_; intros)
    (refine ⟨_, _, _, callG [(0, 0)] [] [] rfl rfl rfl (by kernel_rfl) (sp4) (by repeat' (first | exact trivial | exact Lent.refl _ | exact Lent.norm _ | exact Lent.whole rfl rfl (by first | rfl | exact List.length_append.symm | exact hlenR | simp) rfl (by first | exact .inl rfl | exact .inr rfl) | apply And.intro)) rfl ⟨rfl, rfl, rfl, rfl, rfl, by repeat' (first | exact trivial | rfl | apply And.intro), rfl, rfl⟩, ?_⟩; conv => whnf)
    (refine gGo ?_; intros)
    refine boolRes_split (fun hb => ?_) (fun hb => ?_) <;> conv => whnf
    · rw [if_pos hb]
      (refine gGo ?_; intros)
      (refine gM ?_; conv => whnf)
      exact retH rfl (.norm _) rfl rfl rfl ⟨rfl, rfl, trivial⟩
    · rw [if_neg hb]
      (refine gGo ?_; intros)
      refine W.leG (mp := [(0, 0), (4, 4)]) (bo := [60]) (st' := ⟨[(4, .bp 4 0)], [(0, [diceB l (nextP l q)]), (4, [.rows 3 [Table.row ⟨id, name, out⟩] none])], [0, 4]⟩)
        (LeG.mq (.ci 0 (.cons 4 (b1 := .rows 3 [Table.row ⟨id, name, out⟩] none) rfl rfl (.rows _ _ _ (by repeat' (first | exact trivial | exact ⟨Lent.refl _, rfl⟩ | exact ⟨Lent.norm _, rfl⟩ | exact ⟨Lent.whole rfl rfl (by first | rfl | exact List.length_append.symm | exact hlenR | simp) rfl (by first | exact .inl rfl | exact .inr rfl), rfl⟩ | apply And.intro))) rfl .nil))) ?_
      (refine gM ?_; conv => whnf)
      exact retH rfl (.refl _) rfl rfl rfl ⟨rfl, rfl, trivial⟩
  · have sp5 := kcolumn_spec l n q (by omega) hq
    obtain ⟨_, hq2⟩ := colK_ok (n := n) (by omega) hq
    simp only [seqF] at he
    (refine gGo ?_; intros)
    (refine ⟨_, _, _, callG [(0, 0)] [] [] rfl rfl rfl (by kernel_rfl) (sp5) (by repeat' (first | exact trivial | exact Lent.refl _ | exact Lent.norm _ | exact Lent.whole rfl rfl (by first | rfl | exact List.length_append.symm | exact hlenR | simp) rfl (by first | exact .inl rfl | exact .inr rfl) | apply And.intro)) rfl ⟨rfl, rfl, rfl, rfl, rfl, by repeat' (first | exact trivial | rfl | apply And.intro), rfl, rfl⟩, ?_⟩; conv => whnf)
    (refine gGo ?_; intros)
    refine ⟨⟨rowsSz_cons rfl rowsSz_nil, rfl⟩, fitsN (n := (colRows out).length + 1) (b := 40) (by omega) (by omega), .inl ⟨rfl, rfl, ?_⟩⟩
    conv => whnf
    (refine gGo ?_; intros)
    refine ⟨_, _, ?_, ⟨j, i + 1, _, out ++ [_], by omega, hq2, by simp; omega, (by rw [he, List.append_cons]), rfl, rfl⟩, [(0, 0), (4, 4), (5, 5), (60, 60)], [], [], LeG.mk' rfl rfl rfl ⟨⟨_, .refl _, rfl⟩, ⟨_, .refl _, rfl⟩, ⟨_, .refl _, rfl⟩, ⟨_, .refl _, rfl⟩, ⟨_, .refl _, (by show V.int .i64 (((j + 1 : Nat) : Int) - 1) = _; congr 1; omega)⟩, trivial⟩ (.ci 0 (.ci 4 (.cons 5 rfl rfl (.refl _) ?_ (.cons 60 rfl rfl (.refl _) ?_ .nil)))) rfl rfl (by rw [hK]; rfl)⟩
    · omega
    · rw [colRows_snoc, List.length_append]; rfl
    · rw [colRows_snoc]; rfl
end Go.Sx.Sp
namespace Go.Sx.Sp
open Go Go.Sx Go.Proofs
attribute [local irreducible] GoodW famL
set_option maxHeartbeats 8000000 in
theorem contains34_spec {t rows : Table} (ht : RectT t) (hr : RectT rows) (hbt : rowsN t ≤ 1000000) (hbr : rowsN rows ≤ 1000000) : Spec Tryd.prog 10 [.agg t.row, .agg rows.row] [] (.bool (contB t rows)) [] := by
  have hcl := colRows_len rows.cols
  have hcl2 := colRows_len t.cols
  have sp1 := rows3_spec t
  have sp2 := rows3_spec rows
  refine gEn env Tryd.func10 fun Γ hN hK hML => ?_
  refine gA ?_
  (refine gE env hN (by kernel_rfl) ?_; conv => whnf)
  (refine gGs ?_; intros)
  refine W.leG (mp := []) (bo := [2, 3]) (st' := ⟨[(2, .ro t.row 0), (3, .ro rows.row 0)], [], []⟩)
    (LeG.mk' rfl rfl rfl ⟨⟨_, .bp 2 0 3 t.row none rfl rfl (by simp [Table.row]) (.inr rfl), rfl⟩, ⟨_, .bp 3 0 3 rows.row none rfl rfl (by simp [Table.row]) (.inr rfl), rfl⟩, trivial⟩ .nil rfl rfl (by rw [hK]; rfl)) ?_
  by_cases hlen : t.cols.length = rows.cols.length
  · (refine gGo ?_; intros)
    (refine gPC (sp2) ?_; conv => whnf)
    (refine gGo ?_; intros)
    refine W.leG (mp := []) (bo := []) (st' := ⟨[(2, .ro t.row 0), (3, .ro rows.row 0), (20, .int .i64 (rowsN rows : Nat)), (21, .int .i64 (0 : Nat))], [], []⟩)
      (LeG.mq .nil) ?_
    refine W.loopG (fun m st => ∃ k : Nat, k ≤ rowsN rows ∧ (∀ k', k' < k → anyB t rows k' (rowsN t) = true) ∧ m = rowsN rows - k ∧ st = ⟨[(2, .ro t.row 0), (3, .ro rows.row 0), (20, .int .i64 (rowsN rows : Nat)), (21, .int .i64 (k : Nat))], [], []⟩)
      (rowsN rows) _ ⟨0, by omega, fun k' h => by omega, by omega, rfl⟩ ⟨[], [], [], .mq .nil⟩ ?_
    rintro m st ⟨k, hk, hall, rfl, rfl⟩
    (refine gGo ?_; intros)
    refine boolRes_split (fun hb => ?_) (fun hb => ?_) <;> conv => whnf
    · have hkl : k < rowsN rows := by omega
      have hcf := contB_false (t := t) hkl
      (refine gGo ?_; intros)
      (refine gPC (sp1) ?_; conv => whnf)
      (refine gGo ?_; intros)
      refine W.leG (mp := []) (bo := []) (st' := ⟨[(2, .ro t.row 0), (3, .ro rows.row 0), (20, .int .i64 (rowsN rows : Nat)), (21, .int .i64 (k : Nat)), (5, .int .i64 k), (6, .bool (anyB t rows k 0)), (25, .int .i64 (rowsN t : Nat)), (26, .int .i64 (0 : Nat))], [], []⟩)
        (LeG.mq .nil) ?_
      refine W.loopG (fun m st => ∃ i : Nat, i ≤ rowsN t ∧ m = rowsN t - i ∧ st = ⟨[(2, .ro t.row 0), (3, .ro rows.row 0), (20, .int .i64 (rowsN rows : Nat)), (21, .int .i64 (k : Nat)), (5, .int .i64 k), (6, .bool (anyB t rows k i)), (25, .int .i64 (rowsN t : Nat)), (26, .int .i64 (i : Nat))], [], []⟩)
        (rowsN t) _ ⟨0, by omega, by omega, rfl⟩ ⟨[], [], [], .mq .nil⟩ ?_
      rintro m st ⟨i, hi, rfl, rfl⟩
      have hsn := anyB_succ t rows k i
      (refine gGo ?_; intros)
      refine boolRes_split (fun hb => ?_) (fun hb => ?_) <;> conv => whnf
      · have hil : i < rowsN t := by omega
        (refine gGo ?_; intros)
        refine W.leG (mp := []) (bo := []) (st' := ⟨[(2, .ro t.row 0), (3, .ro rows.row 0), (20, .int .i64 (rowsN rows : Nat)), (21, .int .i64 (k : Nat)), (5, .int .i64 k), (6, .bool (anyB t rows k i)), (25, .int .i64 (rowsN t : Nat)), (26, .int .i64 (i : Nat)), (7, .int .i64 i), (8, .bool (agB t i rows k (0))), (30, .sl (colRows rows.cols) false), (31, .int .i64 (colRows rows.cols).length), (32, .int .i64 (0 : Nat))], [], []⟩)
          (LeG.mq .nil) ?_
        refine W.loopG (fun m st => ∃ c : Nat, c ≤ rows.cols.length ∧ m = rows.cols.length - c ∧ st = ⟨[(2, .ro t.row 0), (3, .ro rows.row 0), (20, .int .i64 (rowsN rows : Nat)), (21, .int .i64 (k : Nat)), (5, .int .i64 k), (6, .bool (anyB t rows k i)), (25, .int .i64 (rowsN t : Nat)), (26, .int .i64 (i : Nat)), (7, .int .i64 i), (8, .bool (agB t i rows k (c))), (30, .sl (colRows rows.cols) false), (31, .int .i64 (colRows rows.cols).length), (32, .int .i64 (c : Nat))], [], []⟩)
          rows.cols.length _ ⟨0, by omega, by omega, rfl⟩ ⟨[], [], [], .mq .nil⟩ ?_
        rintro m st ⟨c, hc, rfl, rfl⟩
        (refine gGo ?_; intros)
        refine boolRes_split (fun hb => ?_) (fun hb => ?_) <;> conv => whnf
        · have hlt : c < rows.cols.length := by omega
          have hlt2 : c < t.cols.length := by omega
          have hg1 := colRows_get hlt
          have hg2 := colRows_get hlt2
          obtain ⟨hx1, hx2⟩ := cellT_get hr hlt hkl
          obtain ⟨hy1, hy2⟩ := cellT_get ht hlt2 hil
          have hsn2 := agB_succ t i rows k c
          have spF := fit_spec (cellT rows c k) (cellT t c i)
          generalize rows.cols[c] = cr at *
          generalize t.cols[c] = ct at *
          generalize fitC (cellT rows c k) (cellT t c i) = fb at *
          obtain ⟨xn, xt, hx⟩ : ∃ xn xt, cellT rows c k = ⟨xn, xt⟩ := ⟨_, _, rfl⟩
          obtain ⟨yn, yt, hy⟩ : ∃ yn yt, cellT t c i = ⟨yn, yt⟩ := ⟨_, _, rfl⟩
          rw [hx] at hx1 hsn2 spF
          rw [hy] at hy1 spF
          clear hx hy
          simp only at hsn2
          have hxr : Cell.row ⟨xn, xt⟩ = [.bool xn, .str xt] := rfl
          have hyr : Cell.row ⟨yn, yt⟩ = [.bool yn, .str yt] := rfl
          rw [hxr] at hx1 spF
          rw [hyr] at hy1 spF
          generalize agB t i rows k c = ag at *
          (refine gGo ?_; intros)
          refine rowAt_of (r := cr.row) (by simpa using hg1) ?_
          conv => whnf
          (refine gGo ?_; intros)
          refine rowAt_of (by simpa using hx1) ?_
          conv => whnf
          (refine gGo ?_; intros)
          cases ag with
          | false =>
            rw [Bool.false_and] at hsn2
            conv => whnf
            (refine gGo ?_; intros)
            refine ⟨_, _, ?_, ⟨c + 1, by omega, rfl, rfl⟩, [], [], [], LeG.mk' rfl rfl rfl (by rw [hsn2]; exact (by repeat' (first | exact trivial | exact ⟨_, .refl _, rfl⟩ | apply And.intro))) .nil rfl rfl (by rw [hK]; rfl)⟩
            omega
          | true =>
            rw [Bool.true_and] at hsn2
            cases xn with
            | true =>
              rw [Bool.true_or] at hsn2
              conv => whnf
              (refine gGo ?_; intros)
              refine ⟨_, _, ?_, ⟨c + 1, by omega, rfl, rfl⟩, [], [], [], LeG.mk' rfl rfl rfl (by rw [hsn2]; exact (by repeat' (first | exact trivial | exact ⟨_, .refl _, rfl⟩ | apply And.intro))) .nil rfl rfl (by rw [hK]; rfl)⟩
              omega
            | false =>
              rw [Bool.false_or] at hsn2
              conv => whnf
              (refine gGo ?_; intros)
              refine rowAt_of (r := ct.row) (by simpa using hg2) ?_
              conv => whnf
              (refine gGo ?_; intros)
              refine rowAt_of (by simpa using hy1) ?_
              conv => whnf
              (refine gGo ?_; intros)
              (refine gPC (spF) ?_; conv => whnf)
              (refine gGo ?_; intros)
              refine ⟨_, _, ?_, ⟨c + 1, by omega, rfl, rfl⟩, [], [], [], LeG.mk' rfl rfl rfl (by rw [hsn2]; exact (by repeat' (first | exact trivial | exact ⟨_, .refl _, rfl⟩ | apply And.intro))) .nil rfl rfl (by rw [hK]; rfl)⟩
              omega
        · have hce : c = rows.cols.length := by omega
          subst hce
          generalize agB t i rows k rows.cols.length = ag at *
          generalize anyB t rows k i = fd at *
          cases fd with
          | true =>
            rw [Bool.true_or] at hsn
            (refine gGo ?_; intros)
            refine ⟨_, _, ?_, ⟨i + 1, by omega, rfl, rfl⟩, [], [], [], LeG.mk' rfl rfl rfl (by rw [hsn]; exact (by repeat' (first | exact trivial | exact ⟨_, .refl _, rfl⟩ | apply And.intro))) .nil rfl rfl (by rw [hK]; rfl)⟩
            omega
          | false =>
            rw [Bool.false_or] at hsn
            (refine gGo ?_; intros)
            refine ⟨_, _, ?_, ⟨i + 1, by omega, rfl, rfl⟩, [], [], [], LeG.mk' rfl rfl rfl (by rw [hsn]; exact (by repeat' (first | exact trivial | exact ⟨_, .refl _, rfl⟩ | apply And.intro))) .nil rfl rfl (by rw [hK]; rfl)⟩
            omega
      · have hie : i = rowsN t := by omega
        subst hie
        cases hfd : anyB t rows k (rowsN t) with
        | true =>
          (refine gGo ?_; intros)
          refine ⟨_, _, ?_, ⟨k + 1, by omega, fun k' hk' => ?_, rfl, rfl⟩, ⟨[], [], [], .mq .nil⟩⟩
          · omega
          · by_cases e : k' = k
            · rw [e]; exact hfd
            · exact hall k' (by omega)
        | false =>
          rw [hcf hfd]
          (refine gGr ?_; intros)
          exact ret0 rfl rfl rfl
    · have hke : k = rowsN rows := by omega
      have hct : contB t rows = true := by
        unfold contB
        rw [decide_eq_true hlen, Bool.true_and, List.all_eq_true]
        intro k' hk'
        exact hall k' (by have := List.mem_range.1 hk'; omega)
      rw [hct]
      (refine gGr ?_; intros)
      exact ret0 rfl rfl rfl
  · have hcf : contB t rows = false := by
      unfold contB
      rw [decide_eq_false hlen, Bool.false_and]
    rw [hcf]
    (refine gGr ?_; intros)
    exact ret0 rfl rfl rfl
end Go.Sx.Sp
namespace Go.Sx.Sp
open Go Go.Sx Go.Proofs
attribute [local irreducible] GoodW famL
theorem rect_len {t : Table} {n : Nat} (h : ∀ c ∈ t.cols, c.cells.length = n) : RectT t ∧ rowsN t ≤ n := by
  have hn : t.cols ≠ [] → rowsN t = n := fun h0 => by
    unfold rowsN
    cases hc : t.cols with
    | nil => exact absurd hc h0
    | cons c cs => exact h c (by rw [hc]; simp)
  constructor
  · intro c hc
    rw [h c hc, hn (fun e => by rw [e] at hc; cases hc)]
  · by_cases h0 : t.cols = []
    · unfold rowsN; rw [h0]; exact Nat.zero_le _
    · rw [hn h0]; exact Nat.le_refl _
theorem rect_good {t : Table} (h : GoodTab t) : RectT t ∧ rowsN t ≤ 6 ∧ t.cols.length ≤ 3 := by
  obtain ⟨_, h2, n, hn, h3⟩ := h
  obtain ⟨h4, h5⟩ := rect_len (t := t) (n := n) (fun c hc => (h3 c hc).len)
  exact ⟨h4, by omega, h2⟩
set_option maxHeartbeats 16000000 in
theorem contains_law (t : List Int) : Spec Tryd.prog 3 [.sl (intRows .i64 t) false] [] (.bool true) [] := by
  have hl := intRows_len .i64 t
  have spL := light_spec t
  have spA := awake34_spec
  by_cases hll : t.length ≤ 500
  · rw [decide_eq_true hll] at spL
    have spT := table_spec t 1 0 (Nat.zero_le _)
    obtain ⟨hg, _, hq0⟩ := tblF_ok (l := t) (id := 1) (p := 0) (Nat.zero_le _)
    obtain ⟨hrA, hnA, hcA⟩ := rect_good hg
    generalize (tblF t 1 0).1 = A at *
    generalize (tblF t 1 0).2 = q0 at *
    have hAl := colRows_len A.cols
    have spVA := contains_rows_spec hrA hrA (by omega) (by omega)
    have spRA := contains34_spec hrA hrA (by omega) (by omega)
    refine gEn env Tryd.func3 fun Γ hN hK hML => ?_
    (refine gGo ?_; intros)
    (refine gPC (spL) ?_; conv => whnf)
    (refine gGo ?_; intros)
    (refine gCA [] [(5, 170)] [] (roll_spec t) ?_; conv => whnf)
    (refine gGo ?_; intros)
    (refine gCA [(0, 170)] [] [] (spT) ?_; conv => whnf)
    (refine gGo ?_; intros)
    refine W.leG (mp := [(4, 4), (170, 170)]) (bo := []) (st' := ⟨[(3, .bp 170 0), (4, .bp 4 0), (19, .int .i64 (0 : Nat))], [(4, [.rows 3 [A.row] none]), (170, [diceB t (q0)])], [4, 170]⟩)
      (LeG.mq (.ci 4 (.ci 170 .nil))) ?_
    refine W.loopG (fun m st => ∃ x q : Nat, x ≤ 3 ∧ q ≤ t.length ∧ m = 3 - x ∧ st = ⟨[(3, .bp 170 0), (4, .bp 4 0), (19, .int .i64 (x : Nat))], [(4, [.rows 3 [A.row] none]), (170, [diceB t (q)])], [4, 170]⟩)
      3 _ ⟨0, q0, by omega, hq0, by omega, rfl⟩ ⟨[(4, 4), (170, 170)], [], [], LeG.mq (.ci 4 (.ci 170 .nil))⟩ ?_
    rintro m st ⟨x, q, hx, hq, rfl, rfl⟩
    (refine gGo ?_; intros)
    refine boolRes_split (fun hb => ?_) (fun hb => ?_) <;> conv => whnf
    · have spB := table_spec t 2 q hq
      obtain ⟨hgB, _, hq1⟩ := tblF_ok (l := t) (id := 2) (p := q) hq
      obtain ⟨hrB, hnB, hcB⟩ := rect_good hgB
      generalize (tblF t 2 q).1 = B at *
      generalize (tblF t 2 q).2 = q1 at *
      have spVB := contains_rows_spec hrA hrB (by omega) (by omega)
      have spRB := contains34_spec hrA hrB (by omega) (by omega)
      have n1 := next_spec t q1 3 (by omega) hq1
      have hr1 := nextV_range t q1 (n := 3) (by omega)
      have hq2 := nextP_le hq1
      generalize nextV t q1 3 = v1 at *
      generalize nextP t q1 = q2 at *
      (refine gGo ?_; intros)
      (refine gCA [(0, 170)] [] [] (spB) ?_; conv => whnf)
      (refine gGo ?_; intros)
      (refine gCA [(0, 170)] [] [] (n1) ?_; conv => whnf)
      (refine gGo ?_; intros)
      by_cases hv1 : 0 < v1
      · have n2 := next_spec t q2 4 (by omega) hq2
        have hr2 := nextV_range t q2 (n := 4) (by omega)
        have hq3 := nextP_le hq2
        obtain ⟨n, hn⟩ := Int.eq_ofNat_of_zero_le hr2.1
        rw [hn] at n2 hr2
        generalize nextP t q2 = q3 at *
        (refine gGo ?_; intros)
        (refine gCA [(0, 170)] [] [] (n2) ?_; conv => whnf)
        (refine gGo ?_; intros)
        refine W.ownCell 5 0 2 92 2 rfl rfl rfl rfl rfl ?_
        refine W.leG (mp := [(4, 4), (170, 170), (5, 5), (92, 92)]) (bo := []) (st' := ⟨[(3, .bp 170 0), (4, .bp 4 0), (19, .int .i64 (x : Nat)), (5, .bp 5 0), (6, .int .i64 (n : Nat)), (30, .sl (colRows A.cols) false), (31, .int .i64 (colRows A.cols).length), (32, .int .i64 (0 : Nat))], [(4, [.rows 3 [A.row] none]), (170, [diceB t (q3)]), (5, [.rows 3 [[.int .i64 0, .str [], .osl 92 0 0 (colRows ([])).length (colRows ([])).length]] none]), (92, [.rows 2 (colRows ([])) (some [])])], [4, 170, 5, 92]⟩)
          (LeG.mq (.ci 4 (.ci 170 (.ci 5 (.ci 92 .nil))))) ?_
        refine W.loopG (fun m st => ∃ (j q : Nat) (Cs : List Column), j ≤ A.cols.length ∧ q ≤ t.length ∧ Cs.length = j ∧ (∀ c ∈ Cs, c.cells.length = n) ∧ m = A.cols.length - j ∧ st = ⟨[(3, .bp 170 0), (4, .bp 4 0), (19, .int .i64 (x : Nat)), (5, .bp 5 0), (6, .int .i64 (n : Nat)), (30, .sl (colRows A.cols) false), (31, .int .i64 (colRows A.cols).length), (32, .int .i64 (j : Nat))], [(4, [.rows 3 [A.row] none]), (170, [diceB t (q)]), (5, [.rows 3 [[.int .i64 0, .str [], .osl 92 0 0 (colRows (Cs)).length (colRows (Cs)).length]] none]), (92, [.rows 2 (colRows (Cs)) (some [])])], [4, 170, 5, 92]⟩)
          A.cols.length _ ⟨0, q3, [], by omega, hq3, rfl, (fun c hc => by cases hc), by omega, rfl⟩ ⟨[(4, 4), (170, 170), (5, 5), (92, 92)], [], [], LeG.mq (.ci 4 (.ci 170 (.ci 5 (.ci 92 .nil))))⟩ ?_
        rintro m st ⟨j, q4, Cs, hj, hq4, hCs, hCn, rfl, rfl⟩
        have hCl := colRows_len Cs
        (refine gGo ?_; intros)
        refine boolRes_split (fun hb => ?_) (fun hb => ?_) <;> conv => whnf
        · have hjl : j < A.cols.length := by omega
          have hgj := colRows_get hjl
          have hcj := hrA _ (List.getElem_mem hjl)
          generalize A.cols[j] = cr at *
          have hcrl := cellRows_len cr.cells
          (refine gGo ?_; intros)
          refine rowAt_of (r := cr.row) (by simpa using hgj) ?_
          conv => whnf
          (refine gGo ?_; intros)
          refine W.ownCell 9 0 1 93 2 rfl rfl rfl rfl rfl ?_
          refine W.leG (mp := [(4, 4), (170, 170), (5, 5), (92, 92), (8, 8), (9, 9), (93, 93)]) (bo := []) (st' := ⟨[(3, .bp 170 0), (4, .bp 4 0), (19, .int .i64 (x : Nat)), (5, .bp 5 0), (6, .int .i64 (n : Nat)), (30, .sl (colRows A.cols) false), (31, .int .i64 (colRows A.cols).length), (32, .int .i64 (j : Nat)), (8, .bp 8 0), (9, .bp 9 0), (37, .int .i64 (n : Nat)), (38, .int .i64 (0 : Nat))], [(4, [.rows 3 [A.row] none]), (170, [diceB t (q4)]), (5, [.rows 3 [[.int .i64 0, .str [], .osl 92 0 0 (colRows (Cs)).length (colRows (Cs)).length]] none]), (92, [.rows 2 (colRows (Cs)) (some [])]), (8, [.rows 2 [cr.row] none]), (9, [.rows 2 [[.str [], .osl 93 0 0 (cellRows ([])).length (cellRows ([])).length]] none]), (93, [.rows 2 (cellRows ([])) (some [])])], [4, 170, 5, 92, 8, 9, 93]⟩)
            (LeG.mq (.ci 4 (.ci 170 (.ci 5 (.ci 92 (.ci 8 (.ci 9 (.ci 93 .nil)))))))) ?_
          refine W.loopG (fun m st => ∃ (r q : Nat) (ds : List Cell), r ≤ n ∧ q ≤ t.length ∧ ds.length = r ∧ m = n - r ∧ st = ⟨[(3, .bp 170 0), (4, .bp 4 0), (19, .int .i64 (x : Nat)), (5, .bp 5 0), (6, .int .i64 (n : Nat)), (30, .sl (colRows A.cols) false), (31, .int .i64 (colRows A.cols).length), (32, .int .i64 (j : Nat)), (8, .bp 8 0), (9, .bp 9 0), (37, .int .i64 (n : Nat)), (38, .int .i64 (r : Nat))], [(4, [.rows 3 [A.row] none]), (170, [diceB t (q)]), (5, [.rows 3 [[.int .i64 0, .str [], .osl 92 0 0 (colRows (Cs)).length (colRows (Cs)).length]] none]), (92, [.rows 2 (colRows (Cs)) (some [])]), (8, [.rows 2 [cr.row] none]), (9, [.rows 2 [[.str [], .osl 93 0 0 (cellRows (ds)).length (cellRows (ds)).length]] none]), (93, [.rows 2 (cellRows (ds)) (some [])])], [4, 170, 5, 92, 8, 9, 93]⟩)
            n _ ⟨0, q4, [], by omega, hq4, rfl, by omega, rfl⟩ ⟨[(4, 4), (170, 170), (5, 5), (92, 92), (8, 8), (9, 9), (93, 93)], [], [], LeG.mq (.ci 4 (.ci 170 (.ci 5 (.ci 92 (.ci 8 (.ci 9 (.ci 93 .nil)))))))⟩ ?_
          rintro m st ⟨r, q5, ds, hr, hq5, hds, rfl, rfl⟩
          have hdl := cellRows_len ds
          (refine gGo ?_; intros)
          refine boolRes_split (fun hb => ?_) (fun hb => ?_) <;> conv => whnf
          ·
            have n3 := next_spec t q5 3 (by omega) hq5
            have hr3 := nextV_range t q5 (n := 3) (by omega)
            have hq6 := nextP_le hq5
            generalize nextV t q5 3 = v3 at *
            generalize nextP t q5 = q6 at *
            by_cases hpos : 0 < cr.cells.length
            · by_cases hv3 : 0 < v3
              · have n4 := next_spec t q6 ((cellRows cr.cells).length : Nat) (by omega) hq6
                have hr4 := nextV_range t q6 (n := ((cellRows cr.cells).length : Nat)) (by omega)
                have hq7 := nextP_le hq6
                obtain ⟨ix, hix⟩ := Int.eq_ofNat_of_zero_le hr4.1
                rw [hix] at n4 hr4
                have hixl : ix < cr.cells.length := by omega
                have hgx := cellRows_get hixl
                generalize cr.cells[ix] = dx at *
                (refine gGo ?_; intros)
                (refine gCA [(0, 170)] [] [] (n3) ?_; conv => whnf)
                (refine gGo ?_; intros)
                (refine gCA [(0, 170)] [] [] (n4) ?_; conv => whnf)
                (refine gGo ?_; intros)
                refine rowAt_of (r := dx.row) (by simpa using hgx) ?_
                conv => whnf
                (refine gGo ?_; intros)
                refine ⟨⟨rowsSz_cons rfl rowsSz_nil, rfl⟩, fitsN (n := (cellRows ds).length + 1) (b := 24) (by omega) (by omega), .inl ⟨rfl, rfl, ?_⟩⟩
                conv => whnf
                (refine gGo ?_; intros)
                refine ⟨_, _, ?_, ⟨r + 1, _, ds ++ [dx], by omega, hq7, by rw [List.length_append, hds]; rfl, rfl, rfl⟩, [(4, 4), (170, 170), (5, 5), (92, 92), (8, 8), (9, 9), (93, 93)], [], [], LeG.mq (.ci 4 (.ci 170 (.ci 5 (.ci 92 (.ci 8 (.cons 9 rfl rfl (.refl _) ?_ (.cons 93 rfl rfl (.refl _) ?_ .nil)))))))⟩
                · omega
                · rw [cellRows_snoc, List.length_append]; rfl
                · rw [cellRows_snoc]; rfl
              · (refine gGo ?_; intros)
                (refine gCA [(0, 170)] [] [] (n3) ?_; conv => whnf)
                (refine gGo ?_; intros)
                refine ⟨⟨rowsSz_cons rfl rowsSz_nil, rfl⟩, fitsN (n := (cellRows ds).length + 1) (b := 24) (by omega) (by omega), .inl ⟨rfl, rfl, ?_⟩⟩
                conv => whnf
                (refine gGo ?_; intros)
                refine ⟨_, _, ?_, ⟨r + 1, _, ds ++ [⟨true, []⟩], by omega, hq6, by rw [List.length_append, hds]; rfl, rfl, rfl⟩, [(4, 4), (170, 170), (5, 5), (92, 92), (8, 8), (9, 9), (93, 93)], [], [], LeG.mq (.ci 4 (.ci 170 (.ci 5 (.ci 92 (.ci 8 (.cons 9 rfl rfl (.refl _) ?_ (.cons 93 rfl rfl (.refl _) ?_ .nil)))))))⟩
                · omega
                · rw [cellRows_snoc, List.length_append]; rfl
                · rw [cellRows_snoc]; rfl
            · (refine gGo ?_; intros)
              refine ⟨⟨rowsSz_cons rfl rowsSz_nil, rfl⟩, fitsN (n := (cellRows ds).length + 1) (b := 24) (by omega) (by omega), .inl ⟨rfl, rfl, ?_⟩⟩
              conv => whnf
              (refine gGo ?_; intros)
              refine ⟨_, _, ?_, ⟨r + 1, _, ds ++ [⟨true, []⟩], by omega, hq5, by rw [List.length_append, hds]; rfl, rfl, rfl⟩, [(4, 4), (170, 170), (5, 5), (92, 92), (8, 8), (9, 9), (93, 93)], [], [], LeG.mq (.ci 4 (.ci 170 (.ci 5 (.ci 92 (.ci 8 (.cons 9 rfl rfl (.refl _) ?_ (.cons 93 rfl rfl (.refl _) ?_ .nil)))))))⟩
              · omega
              · rw [cellRows_snoc, List.length_append]; rfl
              · rw [cellRows_snoc]; rfl
          · have hre : r = n := by omega
            refine gA ?_
            refine gD rfl ?_
            refine gG ?_
            conv => whnf
            refine W.leG (mp := [(4, 4), (170, 170), (5, 5), (92, 92), (9, 9)]) (bo := [93]) (st' := ⟨[(3, .bp 170 0), (4, .bp 4 0), (19, .int .i64 (x : Nat)), (5, .bp 5 0), (6, .int .i64 (n : Nat)), (30, .sl (colRows A.cols) false), (31, .int .i64 (colRows A.cols).length), (32, .int .i64 (j : Nat)), (9, .bp 9 0)], [(4, [.rows 3 [A.row] none]), (170, [diceB t (q5)]), (5, [.rows 3 [[.int .i64 0, .str [], .osl 92 0 0 (colRows (Cs)).length (colRows (Cs)).length]] none]), (92, [.rows 2 (colRows (Cs)) (some [])]), (9, [.rows 2 [Column.row ⟨[], ds⟩] none])], [4, 170, 5, 92, 9]⟩)
              (LeG.mq (.ci 4 (.ci 170 (.ci 5 (.ci 92 (.cons 9 (b1 := .rows 2 [Column.row ⟨[], ds⟩] none) rfl rfl (.rows _ _ _ (by repeat' (first | exact trivial | exact ⟨Lent.refl _, rfl⟩ | exact ⟨Lent.norm _, rfl⟩ | exact ⟨Lent.whole rfl rfl (by first | rfl | exact List.length_append.symm | exact hlenR | simp) rfl (by first | exact .inl rfl | exact .inr rfl), rfl⟩ | apply And.intro))) rfl .nil)))))) ?_
            (refine gGo ?_; intros)
            refine ⟨⟨rowsSz_cons rfl rowsSz_nil, rfl⟩, fitsN (n := (colRows Cs).length + 1) (b := 40) (by omega) (by omega), .inl ⟨rfl, rfl, ?_⟩⟩
            conv => whnf
            (refine gGo ?_; intros)
            refine ⟨_, _, ?_, ⟨j + 1, _, Cs ++ [⟨[], ds⟩], by omega, hq5, by rw [List.length_append, hCs]; rfl, (fun c hc => by
              rcases List.mem_append.1 hc with hc | hc
              · exact hCn c hc
              · rw [List.mem_singleton.1 hc]; show ds.length = n; omega), rfl, rfl⟩, [(4, 4), (170, 170), (5, 5), (92, 92)], [], [], LeG.mq (.ci 4 (.ci 170 (.cons 5 rfl rfl (.refl _) ?_ (.cons 92 rfl rfl (.refl _) ?_ .nil))))⟩
            · omega
            · rw [colRows_snoc, List.length_append]; rfl
            · rw [colRows_snoc]; rfl
        · have hje : j = A.cols.length := by omega
          refine gA ?_
          refine gD rfl ?_
          refine gG ?_
          conv => whnf
          refine W.leG (mp := [(4, 4), (170, 170), (5, 5)]) (bo := [92]) (st' := ⟨[(3, .bp 170 0), (4, .bp 4 0), (19, .int .i64 (x : Nat)), (5, .bp 5 0)], [(4, [.rows 3 [A.row] none]), (170, [diceB t (q4)]), (5, [.rows 3 [Table.row ⟨0, [], Cs⟩] none])], [4, 170, 5]⟩)
            (LeG.mq (.ci 4 (.ci 170 (.cons 5 (b1 := .rows 3 [Table.row ⟨0, [], Cs⟩] none) rfl rfl (.rows _ _ _ (by repeat' (first | exact trivial | exact ⟨Lent.refl _, rfl⟩ | exact ⟨Lent.norm _, rfl⟩ | exact ⟨Lent.whole rfl rfl (by first | rfl | exact List.length_append.symm | exact hlenR | simp) rfl (by first | exact .inl rfl | exact .inr rfl), rfl⟩ | apply And.intro))) rfl .nil)))) ?_
          obtain ⟨hrC, hnC⟩ := rect_len (t := ⟨0, [], Cs⟩) (n := n) hCn
          have spVC := contains_rows_spec hrA hrC (by omega) (by omega)
          have spRC := contains34_spec hrA hrC (by omega) (by omega)
          generalize contB A ⟨0, [], Cs⟩ = bC at *
          cases bC
          all_goals
          (refine gGo ?_; intros)
          (refine gPC (spVC) ?_; conv => whnf)
          (refine gGo ?_; intros)
          (refine gPC (spRC) ?_; conv => whnf)
          (refine gGo ?_; intros)
          refine ⟨_, _, ?_, ⟨x + 1, _, by omega, by assumption, rfl, rfl⟩, [(4, 4), (170, 170)], [], [], LeG.mq (.ci 4 (.ci 170 .nil))⟩
          omega
      · generalize contB A B = bB at *
        cases bB
        all_goals
        (refine gGo ?_; intros)
        (refine gPC (spVB) ?_; conv => whnf)
        (refine gGo ?_; intros)
        (refine gPC (spRB) ?_; conv => whnf)
        (refine gGo ?_; intros)
        refine ⟨_, _, ?_, ⟨x + 1, _, by omega, by assumption, rfl, rfl⟩, [(4, 4), (170, 170)], [], [], LeG.mq (.ci 4 (.ci 170 .nil))⟩
        omega
    · have hxe : x = 3 := by omega
      generalize contB A A = bA at *
      cases bA <;> (
      (refine gGo ?_; intros)
      (refine gPC (spVA) ?_; conv => whnf)
      (refine gGo ?_; intros)
      (refine gPC (spRA) ?_; conv => whnf)
      (refine gGo ?_; intros)
      (refine gPC (spA) ?_; conv => whnf)
      (refine gGr ?_; intros)
      exact ret0 rfl rfl rfl)
  · rw [decide_eq_false hll] at spL
    refine gEn env Tryd.func3 fun Γ hN hK hML => ?_
    (refine gGo ?_; intros)
    (refine gPC (spL) ?_; conv => whnf)
    (refine gGo ?_; intros)
    (refine gPC (spA) ?_; conv => whnf)
    (refine gGr ?_; intros)
    exact ret0 rfl rfl rfl
theorem contains_calls {w : World} {v0 : Value} {u0 : V} (r0 : VRel w (fun _ => False) (fun _ _ => none) u0 v0) (a0 : argShape T 2 22 u0) (hg : GRel w (fun _ => False)) :
    Calls Tryd.prog 3 #[v0] w fun e w' => e = .returned (.bool true) ∧ Go.RowKit.Below w.heap.size w w' := by
  obtain ⟨l, rfl⟩ := arg_ints a0
  refine Spec.law (contains_law l) (cargs := [v0]) rfl (fun j u c hj hc => ?_) rfl hg
  match j with
  | 0 => cases hj; cases hc; exact r0
  | j + 1 => cases hj
end Go.Sx.Sp
