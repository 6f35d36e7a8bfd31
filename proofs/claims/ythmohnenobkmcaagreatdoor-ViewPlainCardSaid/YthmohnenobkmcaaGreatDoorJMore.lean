/- Views as the document tells them, which tables contain which rows, and the law. -/
import Derived.Test.YthmohnenobkmcaaGreatDoorJTen
import Derived.Test.YthmohnenobkmcaaGreatDoorJNine
import Derived.Test.YthmohnenobkmcaaGreatDoorJSeven
import Derived.Test.YthmohnenobkmcaaGreatDoorSxFour
set_option linter.unusedVariables false
set_option linter.unusedSimpArgs false
namespace Go.Sx.Sp
open Go Go.Sx Go.Proofs
attribute [local irreducible] GoodW famL
end Go.Sx.Sp
namespace Go.Sx.Sp
open Go Go.Sx Go.Proofs
attribute [local irreducible] GoodW famL
end Go.Sx.Sp
namespace Go.Sx.Sp
open Go Go.Sx Go.Proofs
attribute [local irreducible] GoodW famL
end Go.Sx.Sp
namespace Go.Sx.Sp
open Go Go.Sx Go.Proofs
attribute [local irreducible] GoodW famL
end Go.Sx.Sp
namespace Go.Sx.Sp
open Go Go.Sx Go.Proofs
attribute [local irreducible] GoodW famL
def RectT (t : Table) : Prop := ∀ c ∈ t.cols, c.cells.length = rowsN t
def agB (t : Table) (i : Nat) (rows : Table) (k n : Nat) : Bool := (List.range n).all fun c => (cellT rows c k).null || fitC (cellT rows c k) (cellT t c i)
theorem agB_succ (t : Table) (i : Nat) (rows : Table) (k n : Nat) : agB t i rows k (n + 1) = (agB t i rows k n && ((cellT rows n k).null || fitC (cellT rows n k) (cellT t n i))) := by
  unfold agB
  rw [List.range_succ, List.all_append]
  simp
theorem agB_false {t : Table} {i : Nat} {rows : Table} {k n m : Nat} (h : agB t i rows k (n + 1) = false) (hm : n < m) : agB t i rows k m = false := by
  unfold agB at h ⊢
  rw [List.all_eq_false] at h ⊢
  obtain ⟨c, hc, h2⟩ := h
  exact ⟨c, List.mem_range.2 (by have := List.mem_range.1 hc; omega), h2⟩
def anyB (t rows : Table) (k n : Nat) : Bool := (List.range n).any fun i => agB t i rows k rows.cols.length
theorem anyB_succ (t rows : Table) (k n : Nat) : anyB t rows k (n + 1) = (anyB t rows k n || agB t n rows k rows.cols.length) := by
  unfold anyB
  rw [List.range_succ, List.any_append]
  simp
theorem anyB_true {t rows : Table} {k n m : Nat} (h : anyB t rows k n = true) (hm : n ≤ m) : anyB t rows k m = true := by
  unfold anyB at h ⊢
  rw [List.any_eq_true] at h ⊢
  obtain ⟨c, hc, h2⟩ := h
  exact ⟨c, List.mem_range.2 (by have := List.mem_range.1 hc; omega), h2⟩
def contB (t rows : Table) : Bool := decide (t.cols.length = rows.cols.length) && (List.range (rowsN rows)).all fun k => anyB t rows k (rowsN t)
theorem contB_false {t rows : Table} {k : Nat} (hk : k < rowsN rows) (h : anyB t rows k (rowsN t) = false) : contB t rows = false := by
  unfold contB
  rw [Bool.and_eq_false_iff]
  right
  rw [List.all_eq_false]
  exact ⟨k, List.mem_range.2 hk, by rw [h]; decide⟩
theorem cellT_get {t : Table} (h : RectT t) {c i : Nat} (hc : c < t.cols.length) (hi : i < rowsN t) : (cellRows (t.cols[c]).cells)[i]? = some (cellT t c i).row ∧ (cellRows (t.cols[c]).cells).length = rowsN t := by
  have hl := h _ (List.getElem_mem hc)
  refine ⟨?_, by rw [cellRows_len, hl]⟩
  rw [cellRows_get (by omega)]
  unfold cellT
  rw [List.getD_eq_getElem?_getD (l := t.cols), List.getElem?_eq_getElem hc]
  simp only [Option.getD_some]
  rw [List.getD_eq_getElem?_getD, List.getElem?_eq_getElem (by omega)]; rfl
set_option maxHeartbeats 8000000 in
theorem agrees_spec {t rows : Table} (ht : RectT t) (hr : RectT rows) (hlen : t.cols.length = rows.cols.length) {i k : Nat} (hi : i < rowsN t) (hk : k < rowsN rows) : Spec Tryz.prog 55 [.agg t.row, .int .i64 i, .agg rows.row, .int .i64 k] [] (.bool (agB t i rows k rows.cols.length)) [] := by
  have hcl := colRows_len rows.cols
  have hcl2 := colRows_len t.cols
  refine gEn env Tryz.func55 fun Γ hN hK hML => ?_
  refine gA ?_
  (refine gE env hN (by kernel_rfl) ?_; conv => whnf)
  (refine gGs ?_; intros)
  refine W.leG (mp := []) (bo := [4, 6]) (st' := ⟨[(1, .int .i64 i), (3, .int .i64 k), (4, .ro t.row 0), (6, .ro rows.row 0)], [], []⟩)
    (LeG.mk' rfl rfl rfl ⟨⟨_, .refl _, rfl⟩, ⟨_, .refl _, rfl⟩, ⟨_, .bp 4 0 3 t.row none rfl rfl (by simp [Table.row]) (.inr rfl), rfl⟩, ⟨_, .bp 6 0 3 rows.row none rfl rfl (by simp [Table.row]) (.inr rfl), rfl⟩, trivial⟩ .nil rfl rfl (by rw [hK]; rfl)) ?_
  (refine gGo ?_; intros)
  refine W.leG (mp := []) (bo := []) (st' := ⟨[(1, .int .i64 i), (3, .int .i64 k), (4, .ro t.row 0), (6, .ro rows.row 0), (13, .sl (colRows rows.cols) false), (14, .int .i64 (colRows rows.cols).length), (15, .int .i64 (0 : Nat))], [], []⟩)
    (LeG.mq .nil) ?_
  refine W.loopG (fun m st => ∃ c : Nat, c ≤ rows.cols.length ∧ agB t i rows k c = true ∧ m = rows.cols.length - c ∧ st = ⟨[(1, .int .i64 i), (3, .int .i64 k), (4, .ro t.row 0), (6, .ro rows.row 0), (13, .sl (colRows rows.cols) false), (14, .int .i64 (colRows rows.cols).length), (15, .int .i64 (c : Nat))], [], []⟩)
    rows.cols.length _ ⟨0, by omega, rfl, by omega, rfl⟩ ⟨[], [], [], .mq .nil⟩ ?_
  rintro m st ⟨c, hc, hag, rfl, rfl⟩
  (refine gGo ?_; intros)
  refine boolRes_split (fun hb => ?_) (fun hb => ?_) <;> conv => whnf
  · have hlt : c < rows.cols.length := by omega
    have hlt2 : c < t.cols.length := by omega
    have hg1 := colRows_get hlt
    have hg2 := colRows_get hlt2
    obtain ⟨hx1, hx2⟩ := cellT_get hr hlt hk
    obtain ⟨hy1, hy2⟩ := cellT_get ht hlt2 hi
    have hsn := agB_succ t i rows k c
    have hfa := fun h => agB_false (t := t) (i := i) (rows := rows) (k := k) (n := c) (m := rows.cols.length) h hlt
    rw [hag, Bool.true_and] at hsn
    generalize rows.cols[c] = cr at *
    generalize t.cols[c] = ct at *
    obtain ⟨xn, xt, hx⟩ : ∃ xn xt, cellT rows c k = ⟨xn, xt⟩ := ⟨_, _, rfl⟩
    obtain ⟨yn, yt, hy⟩ : ∃ yn yt, cellT t c i = ⟨yn, yt⟩ := ⟨_, _, rfl⟩
    rw [hx] at hx1 hsn
    rw [hy] at hy1 hsn
    clear hx hy
    have hxr : Cell.row ⟨xn, xt⟩ = [.bool xn, .str xt] := rfl
    have hyr : Cell.row ⟨yn, yt⟩ = [.bool yn, .str yt] := rfl
    rw [hxr] at hx1
    rw [hyr] at hy1
    (refine gGo ?_; intros)
    refine rowAt_of (r := cr.row) (by simpa using hg1) ?_
    conv => whnf
    (refine gGo ?_; intros)
    refine rowAt_of (r := ct.row) (by simpa using hg2) ?_
    conv => whnf
    (refine gGo ?_; intros)
    refine rowAt_of (by simpa using hy1) ?_
    conv => whnf
    (refine gGo ?_; intros)
    refine rowAt_of (by simpa using hx1) ?_
    conv => whnf
    (refine gGo ?_; intros)
    cases xn with
    | true =>
      have hsn2 : agB t i rows k (c + 1) = true := by rw [hsn]; rfl
      conv => whnf
      (refine gGo ?_; intros)
      refine ⟨_, _, ?_, ⟨c + 1, by omega, hsn2, rfl, rfl⟩, ⟨[], [], [], .mq .nil⟩⟩
      omega
    | false =>
      cases yn with
      | true =>
        have hsn2 : agB t i rows k (c + 1) = false := by rw [hsn]; rfl
        rw [hfa hsn2]
        conv => whnf
        (refine gGr ?_; intros)
        exact ret0 rfl rfl rfl
      | false =>
        by_cases he : yt = xt
        · have hsn2 : agB t i rows k (c + 1) = true := by rw [hsn]; unfold fitC; simp [he]
          conv => whnf
          (refine gGo ?_; intros)
          refine rowAt_of (by simpa using hx1) ?_
          conv => whnf
          (refine gGo ?_; intros)
          refine gL (fun hh => hh he) ?_
          conv => whnf
          (refine gGo ?_; intros)
          refine ⟨_, _, ?_, ⟨c + 1, by omega, hsn2, rfl, rfl⟩, ⟨[], [], [], .mq .nil⟩⟩
          omega
        · have hsn2 : agB t i rows k (c + 1) = false := by rw [hsn]; unfold fitC; simp [Ne.symm he]
          rw [hfa hsn2]
          conv => whnf
          (refine gGo ?_; intros)
          refine rowAt_of (by simpa using hx1) ?_
          conv => whnf
          (refine gGr ?_; intros)
          exact ret0 rfl rfl rfl
  · have hce : c = rows.cols.length := by omega
    rw [hce] at hag
    rw [hag]
    (refine gGr ?_; intros)
    exact ret0 rfl rfl rfl
set_option maxHeartbeats 8000000 in
theorem contains_rows_spec {t rows : Table} (ht : RectT t) (hr : RectT rows) (hbt : rowsN t ≤ 1000000) (hbr : rowsN rows ≤ 1000000) : Spec Tryz.prog 21 [.agg t.row, .agg rows.row] [] (.bool (contB t rows)) [] := by
  have hcl := colRows_len rows.cols
  have hcl2 := colRows_len t.cols
  have sp1 := rows_spec t
  have sp2 := rows_spec rows
  refine gEn env Tryz.func21 fun Γ hN hK hML => ?_
  refine gA ?_
  (refine gE env hN (by kernel_rfl) ?_; conv => whnf)
  (refine gGs ?_; intros)
  refine W.leG (mp := []) (bo := [2, 3]) (st' := ⟨[(2, .ro t.row 0), (3, .ro rows.row 0)], [], []⟩)
    (LeG.mk' rfl rfl rfl ⟨⟨_, .bp 2 0 3 t.row none rfl rfl (by simp [Table.row]) (.inr rfl), rfl⟩, ⟨_, .bp 3 0 3 rows.row none rfl rfl (by simp [Table.row]) (.inr rfl), rfl⟩, trivial⟩ .nil rfl rfl (by rw [hK]; rfl)) ?_
  by_cases hlen : t.cols.length = rows.cols.length
  · (refine gGo ?_; intros)
    (refine gPC (sp2) ?_; conv => whnf)
    (refine gGo ?_; intros)
    refine W.leG (mp := []) (bo := []) (st' := ⟨[(2, .ro t.row 0), (3, .ro rows.row 0), (16, .int .i64 (rowsN rows : Nat)), (17, .int .i64 (0 : Nat))], [], []⟩)
      (LeG.mq .nil) ?_
    refine W.loopG (fun m st => ∃ k : Nat, k ≤ rowsN rows ∧ (∀ k', k' < k → anyB t rows k' (rowsN t) = true) ∧ m = rowsN rows - k ∧ st = ⟨[(2, .ro t.row 0), (3, .ro rows.row 0), (16, .int .i64 (rowsN rows : Nat)), (17, .int .i64 (k : Nat))], [], []⟩)
      (rowsN rows) _ ⟨0, by omega, fun k' h => by omega, by omega, rfl⟩ ⟨[], [], [], .mq .nil⟩ ?_
    rintro m st ⟨k, hk, hall, rfl, rfl⟩
    (refine gGo ?_; intros)
    refine boolRes_split (fun hb => ?_) (fun hb => ?_) <;> conv => whnf
    · have hkl : k < rowsN rows := by omega
      have hcf := contB_false (t := t) hkl
      (refine gGo ?_; intros)
      refine W.leG (mp := []) (bo := []) (st' := ⟨[(2, .ro t.row 0), (3, .ro rows.row 0), (16, .int .i64 (rowsN rows : Nat)), (17, .int .i64 (k : Nat)), (5, .int .i64 k), (6, .bool (anyB t rows k 0)), (7, .int .i64 (0 : Nat))], [], []⟩)
        (LeG.mq .nil) ?_
      refine W.loopG (fun m st => ∃ i : Nat, i ≤ rowsN t ∧ m = rowsN t - i ∧ st = ⟨[(2, .ro t.row 0), (3, .ro rows.row 0), (16, .int .i64 (rowsN rows : Nat)), (17, .int .i64 (k : Nat)), (5, .int .i64 k), (6, .bool (anyB t rows k i)), (7, .int .i64 i)], [], []⟩)
        (rowsN t) _ ⟨0, by omega, by omega, rfl⟩ ⟨[], [], [], .mq .nil⟩ ?_
      rintro m st ⟨i, hi, rfl, rfl⟩
      have hsn := anyB_succ t rows k i
      (refine gGo ?_; intros)
      by_cases hil : i < rowsN t
      · have spA := agrees_spec ht hr hlen hil hkl
        have htr := fun h => anyB_true (t := t) (rows := rows) (k := k) (n := i) (m := rowsN t) h hi
        generalize anyB t rows k i = fd at *
        generalize agB t i rows k rows.cols.length = ag at *
        cases fd with
        | true =>
          have htr := htr rfl
          (refine gGo ?_; intros)
          (refine gPC (sp1) ?_; conv => whnf)
          (refine gGo ?_; intros)
          refine ⟨_, _, ?_, ⟨k + 1, by omega, fun k' hk' => ?_, rfl, rfl⟩, ⟨[], [], [], .mq .nil⟩⟩
          · omega
          · by_cases e : k' = k
            · rw [e]; exact htr
            · exact hall k' (by omega)
        | false =>
          rw [Bool.false_or] at hsn
          (refine gGo ?_; intros)
          (refine gPC (sp1) ?_; conv => whnf)
          (refine gGo ?_; intros)
          (refine gPC (spA) ?_; conv => whnf)
          (refine gGo ?_; intros)
          refine ⟨_, _, ?_, ⟨i + 1, by omega, rfl, rfl⟩, [], [], [], LeG.mk' rfl rfl rfl (by rw [hsn]; exact (by repeat' (first | exact trivial | exact ⟨_, .refl _, rfl⟩ | apply And.intro))) .nil rfl rfl (by rw [hK]; rfl)⟩
          omega
      · have hie : i = rowsN t := by omega
        rw [hie]
        cases hfd : anyB t rows k (rowsN t) with
        | true =>
          (refine gGo ?_; intros)
          (refine gPC (sp1) ?_; conv => whnf)
          (refine gGo ?_; intros)
          refine ⟨_, _, ?_, ⟨k + 1, by omega, fun k' hk' => ?_, rfl, rfl⟩, ⟨[], [], [], .mq .nil⟩⟩
          · omega
          · by_cases e : k' = k
            · rw [e]; exact hfd
            · exact hall k' (by omega)
        | false =>
          rw [hcf hfd]
          (refine gGo ?_; intros)
          (refine gPC (sp1) ?_; conv => whnf)
          (refine gGr ?_; intros)
          exact ret0 rfl rfl rfl
    · have hke : k = rowsN rows := by omega
      have hct : contB t rows = true := by
        unfold contB
        rw [decide_eq_true hlen, Bool.true_and, List.all_eq_true]
        intro k' hk'
        exact hall k' (by have := List.mem_range.1 hk'; omega)
      rw [hct]
      (refine gGr ?_; intros)
      exact ret0 rfl rfl rfl
  · have hcf : contB t rows = false := by
      unfold contB
      rw [decide_eq_false hlen, Bool.false_and]
    rw [hcf]
    (refine gGr ?_; intros)
    exact ret0 rfl rfl rfl
end Go.Sx.Sp
namespace Go.Sx.Sp
open Go Go.Sx Go.Proofs
attribute [local irreducible] GoodW famL
def aw5 : Table := ⟨5, [], [⟨[110], [⟨false, [49]⟩, ⟨true, []⟩, ⟨false, [50]⟩]⟩]⟩
def awV : Vw := ⟨⟨5, []⟩, [⟨⟨5, 0⟩, 2, [49]⟩], [⟨5, 0⟩, ⟨5, 0⟩]⟩
def awT : Table := ⟨5, [], [⟨[110], [⟨false, [50]⟩]⟩, ⟨[110], [⟨false, [50]⟩]⟩]⟩
theorem aw_eval : evalV [aw5] awV = (awT, 0) := by kernel_rfl
theorem aw_cont : contB aw5 awT = false := by kernel_rfl
set_option maxHeartbeats 8000000 in
theorem awake34_spec : Spec Tryz.prog 12 [] [] (.bool true) [] := by
  have sp1 := evalV_spec [aw5] awV
  rw [aw_eval] at sp1
  have sp2 := rows3_spec awT
  have sp3 := contains_rows_spec (t := aw5) (rows := awT) (fun c hc => by simp [aw5] at hc; subst hc; rfl) (fun c hc => by simp [awT] at hc; subst hc; rfl) (by decide) (by decide)
  rw [aw_cont] at sp3
  refine gEn env Tryz.func12 fun Γ hN hK hML => ?_
  (refine gGo ?_; intros)
  (refine gPC (sp1) ?_; conv => whnf)
  (refine gGo ?_; intros)
  (refine gPC (sp2) ?_; conv => whnf)
  (refine gGo ?_; intros)
  (refine gPC (sp3) ?_; conv => whnf)
  (refine gGr ?_; intros)
  exact ret0 rfl rfl rfl
end Go.Sx.Sp
namespace Go.Sx.Sp
open Go Go.Sx Go.Proofs
attribute [local irreducible] GoodW famL
theorem cellT_cols {t u : Table} (h : t.cols = u.cols) (c i : Nat) : cellT t c i = cellT u c i := by unfold cellT; rw [h]
theorem rowsN_cols {t u : Table} (h : t.cols = u.cols) : rowsN t = rowsN u := by unfold rowsN; rw [h]
theorem contB_self {t u : Table} (h : t.cols = u.cols) : contB t u = true := by
  unfold contB
  rw [h, decide_eq_true rfl, Bool.true_and, List.all_eq_true]
  intro k hk
  have hk := List.mem_range.1 hk
  unfold anyB
  rw [List.any_eq_true]
  refine ⟨k, List.mem_range.2 (by rw [rowsN_cols h]; exact hk), ?_⟩
  unfold agB
  rw [List.all_eq_true]
  intro c hc
  rw [cellT_cols h]
  unfold fitC
  cases (cellT u c k).null <;> simp
def refsB (t : Table) : List Rf := (List.range t.cols.length).map fun i => ⟨t.id, (i : Nat)⟩
def refsOf (ts : List Table) : List Rf := ts.flatMap refsB
theorem refsB_len (t : Table) : (refsB t).length = t.cols.length := by simp [refsB]
theorem refsOf_len : ∀ ts : List Table, (refsOf ts).length = atN ts ts.length
  | [] => rfl
  | t :: ts => by
    have ih := refsOf_len ts
    show (refsB t ++ refsOf ts).length = _
    rw [List.length_append, refsB_len, ih]
    simp [atN]
theorem refsOf_get : ∀ (ts : List Table) (i q : Nat) (t : Table), ts[i]? = some t → q < t.cols.length → (refsOf ts)[atN ts i + q]? = some ⟨t.id, (q : Nat)⟩
  | [], i, q, t, h, _ => by simp at h
  | t' :: ts, 0, q, t, h, hq => by
    cases h
    show (refsB t' ++ refsOf ts)[0 + q]? = _
    rw [Nat.zero_add, List.getElem?_append_left (by rw [refsB_len]; exact hq)]
    simp [refsB, hq]
  | t' :: ts, i + 1, q, t, h, hq => by
    have ih := refsOf_get ts i q t h hq
    have e : atN (t' :: ts) (i + 1) = t'.cols.length + atN ts i := by simp [atN]
    show (refsB t' ++ refsOf ts)[atN (t' :: ts) (i + 1) + q]? = _
    rw [e, List.getElem?_append_right (by rw [refsB_len]; omega), refsB_len, show t'.cols.length + atN ts i + q - t'.cols.length = atN ts i + q by omega, ih]
theorem tabN_id {l : List Table} {p : Pth} (hv : validE l p = 0) {i : Nat} (hi : i ≤ p.steps.length) : (tabN l p i).id = (tabsI p).getD i 0 ∧ findT l ((tabsI p).getD i 0) = some (tabN l p i) := by
  have hf : (findT l ((tabsI p).getD i 0)).isSome = true := by
    cases i with
    | zero =>
      have := (valid_path hv).2.2
      unfold pathB at this
      rw [Bool.and_eq_true] at this
      exact this.1
    | succ q =>
      have hq : q < p.steps.length := by omega
      have hst : (tabsI p).getD (q + 1) 0 = (stpAt p q).tt := by
        unfold tabsI befT stpAt
        rw [List.take_length]
        simp [hq]
      rw [hst]
      have htc := (pathB_step (valid_path hv).2.2 hq).tc
      cases hx : findT l (stpAt p q).tt with
      | some t => rfl
      | none =>
        unfold tabOf at htc
        rw [hx] at htc
        have : (Table.zero.cols.length : Int) = 0 := rfl
        simp only [Option.getD_none] at htc
        omega
  obtain ⟨t, ht⟩ := Option.isSome_iff_exists.1 hf
  have hid : t.id = (tabsI p).getD i 0 := by
    unfold findT at ht
    have := List.find?_some ht
    simpa [idB] using this
  have e : tabN l p i = t := by
    rw [tabN_bef l p hi]; unfold tabOf; rw [ht]; rfl
  rw [e]
  exact ⟨hid, ht⟩
end Go.Sx.Sp
namespace Go.Sx.Sp
open Go Go.Sx Go.Proofs
attribute [local irreducible] GoodW famL
section
variable {l : List Table} {p : Pth}
theorem ref_has (hv : validE l p = 0) {i q : Nat} (hi : i ≤ p.steps.length) (hq : q < (tabN l p i).cols.length) : hasB l p ⟨(tabN l p i).id, (q : Nat)⟩ = true ∧ plcI p (tabN l p i).id = i ∧ colC l ⟨(tabN l p i).id, (q : Nat)⟩ = (tabN l p i).cols[q] := by
  obtain ⟨h1, h2⟩ := tabN_id hv hi
  have hnd := bef_nodup hv p.steps.length (Nat.le_refl _)
  change (tabsI p).Nodup at hnd
  have htl := tabsI_len p
  have hil : i < (tabsI p).length := by omega
  have hgd : (tabsI p).getD i 0 = (tabsI p)[i] := by rw [List.getD_eq_getElem?_getD, List.getElem?_eq_getElem hil]; rfl
  have hmem : (tabN l p i).id ∈ tabsI p := by rw [h1, hgd]; exact List.getElem_mem hil
  have hg : getC l (tabN l p i).id (q : Nat) = some (tabN l p i).cols[q] := by
    unfold getC
    rw [h1, h2]
    simp only
    rw [if_pos ⟨by omega, by omega⟩, Int.toNat_natCast, List.getElem?_eq_getElem hq]
  have hh : hasB l p ⟨(tabN l p i).id, (q : Nat)⟩ = true := by
    unfold hasB
    simp only
    rw [hg, decide_eq_true hmem]; rfl
  refine ⟨hh, ?_, by unfold colC; simp only; rw [hg]; rfl⟩
  obtain ⟨j, hx1, hx2, hx3, hx4, _⟩ := has_facts hv hh
  simp only at hx1 hx2 hx4
  rw [hx2]
  have hjl : j < (tabsI p).length := by omega
  rw [List.getElem?_eq_getElem hjl, h1, hgd] at hx4
  exact (List.getElem_inj hnd).1 (Option.some.inj hx4)
def plainV (l : List Table) (p : Pth) : Vw := ⟨p, [], refsOf (tabsM l p)⟩
theorem plain_ref (hv : validE l p = 0) {k : Nat} (hk : k < (refsOf (tabsM l p)).length) : ∃ (i q : Nat) (hi : i ≤ p.steps.length) (hq : q < (tabN l p i).cols.length), k = atN (tabsM l p) i + q ∧ (refsOf (tabsM l p))[k] = ⟨(tabN l p i).id, (q : Nat)⟩ := by
  rw [refsOf_len] at hk
  obtain ⟨i, q, t, g1, g2, g3⟩ := atN_find _ _ hk
  have hml := tabsM_len l p
  have hi := (List.getElem?_eq_some_iff.1 g1).1
  rw [tabsM_get l p (by omega)] at g1
  cases g1
  refine ⟨i, q, by omega, g2, g3, ?_⟩
  have h1 := refsOf_get (tabsM l p) i q _ (tabsM_get l p (by omega)) g2
  rw [← g3] at h1
  obtain ⟨h3, h4⟩ := List.getElem?_eq_some_iff.1 h1
  exact h4
theorem plain_has (hv : validE l p = 0) : ∀ r ∈ refsOf (tabsM l p), hasB l p r = true := fun r hr => by
  obtain ⟨k, hk, rfl⟩ := List.getElem_of_mem hr
  obtain ⟨i, q, hi, hq, _, h2⟩ := plain_ref hv hk
  rw [h2]
  exact (ref_has hv hi hq).1
theorem plain_col (hv : validE l p = 0) {k : Nat} (hk : k < (refsOf (tabsM l p)).length) (v : Vw) (hvp : v.path = p) (hk2 : k < (togC (tabsM l p) (rowsL l p)).length) : shownC l v (rowsL l p) (refsOf (tabsM l p))[k] = (togC (tabsM l p) (rowsL l p))[k] := by
  obtain ⟨i, q, hi, hq, h1, h2⟩ := plain_ref hv hk
  obtain ⟨h3, h4, h5⟩ := ref_has hv hi hq
  have h6 := allF_get (togF (tabsM l p) (rowsL l p)) (tabsM l p) 0 i q _ (tabsM_get l p hi) hq
  rw [← h1, Nat.zero_add, List.getElem?_eq_getElem hq] at h6
  obtain ⟨_, h7⟩ := List.getElem?_eq_some_iff.1 h6
  refine Eq.trans ?_ (Eq.symm h7)
  rw [h2]
  unfold shownC
  rw [hvp]
  simp only
  rw [h4, h5]
  congr 1
  unfold togF
  rw [List.getD_eq_getElem?_getD (l := tabsM l p), tabsM_get l p hi]
  simp only [Option.getD_some]
  refine List.map_congr_left fun row _ => ?_
  unfold cellT cell0
  rw [List.getD_eq_getElem?_getD (l := (tabN l p i).cols), List.getElem?_eq_getElem hq]; rfl
theorem plain_valid (hv : validE l p = 0) {v : Vw} (hvp : v.path = p) (hfs : v.fs = []) (hcl : v.cs.length ≤ 64) (hcs : ∀ r ∈ v.cs, hasB l p r = true) : validV l v = 0 := by
  unfold validV
  rw [hvp, if_pos hv, hfs, if_pos ⟨Nat.zero_le _, hcl⟩]
  have h1 : v.cs.any (nhR l p) = false := by
    rw [List.any_eq_false]
    intro r hr
    unfold nhR
    rw [hcs r hr]; decide
  rw [if_pos ⟨rfl, h1⟩]
  exact if_pos rfl
theorem pathJ_zero (h : (pathJ l p).2 = 0) : validE l p = 0 ∧ planE l p = 0 ∧ atN (tabsM l p) (p.steps.length + 1) ≤ 64 ∧ (pathJ l p).1 = togT (tabsM l p) (rowsL l p) := by
  unfold pathJ at h ⊢
  by_cases h1 : planE l p = 0
  · rw [if_pos h1] at h ⊢
    by_cases h2 : atN (tabsM l p) (p.steps.length + 1) ≤ 64
    · rw [if_pos h2]
      exact ⟨(planE_ok h1).1, h1, h2, rfl⟩
    · rw [if_neg h2] at h
      cases h
  · rw [if_neg h1] at h
    exact absurd h h1
theorem plain_eval (h : (pathJ l p).2 = 0) : evalV l (plainV l p) = ((pathJ l p).1, 0) := by
  obtain ⟨hv, hp, hc, hT⟩ := pathJ_zero h
  have hml := tabsM_len l p
  have hrl := refsOf_len (tabsM l p)
  rw [hml] at hrl
  have hval : validV l (plainV l p) = 0 := plain_valid hv rfl rfl (by show (refsOf (tabsM l p)).length ≤ 64; omega) (plain_has hv)
  have hk : keptE l (plainV l p) = 0 := by unfold keptE; rw [if_pos hval]; exact hp
  unfold evalV
  rw [if_pos hk, hT]
  congr 1
  unfold shownT togT
  have h0 : tabOf l p.start = (tabsM l p).getD 0 Table.zero := by
    rw [List.getD_eq_getElem?_getD, tabsM_get l p (Nat.zero_le _)]; rfl
  show Table.mk (tabOf l p.start).id (tabOf l p.start).name _ = _
  rw [h0]
  congr 1
  have hcl := togC_len (tabsM l p) (rowsL l p)
  rw [hml] at hcl
  refine List.ext_getElem (by rw [List.length_map]; show (refsOf (tabsM l p)).length = _; omega) fun k h1 h2 => ?_
  rw [List.getElem_map]
  rw [List.length_map] at h1
  exact plain_col hv h1 (plainV l p) rfl h2
theorem plain_one (h : (pathJ l p).2 = 0) {k : Nat} (hk : k < (refsOf (tabsM l p)).length) (hk2 : k < ((pathJ l p).1).cols.length) : evalV l ⟨p, [], [(refsOf (tabsM l p))[k]]⟩ = (⟨((pathJ l p).1).id, ((pathJ l p).1).name, [((pathJ l p).1).cols[k]]⟩, 0) := by
  obtain ⟨hv, hp, hc, hT⟩ := pathJ_zero h
  have hval : validV l ⟨p, [], [(refsOf (tabsM l p))[k]]⟩ = 0 := plain_valid hv rfl rfl (by show 1 ≤ 64; omega) (fun r hr => by
    rw [List.mem_singleton.1 hr]
    exact plain_has hv _ (List.getElem_mem hk))
  have hke : keptE l ⟨p, [], [(refsOf (tabsM l p))[k]]⟩ = 0 := by unfold keptE; rw [if_pos hval]; exact hp
  unfold evalV
  rw [if_pos hke]
  congr 1
  have h0 : tabOf l p.start = (tabsM l p).getD 0 Table.zero := by
    rw [List.getD_eq_getElem?_getD, tabsM_get l p (Nat.zero_le _)]; rfl
  have hk3 : k < (togC (tabsM l p) (rowsL l p)).length := by rw [hT] at hk2; exact hk2
  have hcc := plain_col hv hk ⟨p, [], [(refsOf (tabsM l p))[k]]⟩ rfl hk3
  have hcols : ((pathJ l p).1).cols[k] = (togC (tabsM l p) (rowsL l p))[k] := by
    have : ∀ (T : Table), (pathJ l p).1 = T → ∀ (a : k < T.cols.length), ((pathJ l p).1).cols[k] = T.cols[k] := fun T e a => by subst e; rfl
    exact this _ hT hk3
  rw [hcols, ← hcc, hT]
  show Table.mk (tabOf l p.start).id (tabOf l p.start).name _ = _
  rw [h0]; rfl
end
end Go.Sx.Sp
namespace Go.Sx.Sp
open Go Go.Sx Go.Proofs
attribute [local irreducible] GoodW famL
theorem rfRows_sz (l : List Rf) : rowsSz (rfRows l) 2 := by
  unfold rowsSz
  intro r hr
  obtain ⟨s, _, rfl⟩ := List.mem_map.1 hr
  rfl
theorem rect_tog {ts : List Table} {R : List (List Nat)} : RectT (togT ts R) ∧ rowsN (togT ts R) ≤ R.length := by
  constructor
  · intro c hc
    have h1 : c ∈ togC ts R := hc
    rw [togC_cells h1]
    unfold rowsN
    cases hx : (togT ts R).cols with
    | nil => rw [hx] at hc; cases hc
    | cons c' cs =>
      have : c' ∈ togC ts R := by
        have h2 : c' ∈ (togT ts R).cols := by rw [hx]; simp
        exact h2
      simp only
      rw [togC_cells this]
  · unfold rowsN
    cases hx : (togT ts R).cols with
    | nil => exact Nat.zero_le _
    | cons c' cs =>
      have : c' ∈ togC ts R := by
        have h2 : c' ∈ (togT ts R).cols := by rw [hx]; simp
        exact h2
      simp only
      rw [togC_cells this]
      exact Nat.le_refl _
set_option maxHeartbeats 16000000 in
theorem plain_law (t : List Int) : Spec Tryz.prog 3 [.sl (intRows .i64 t) false] [] (.bool true) [] := by
  have hl := intRows_len .i64 t
  have spL := light_spec t
  have spA := awake34_spec
  by_cases hll : t.length ≤ 500
  · rw [decide_eq_true hll] at spL
    obtain ⟨⟨j1, j2⟩, j3, j4⟩ := joined_ok (l := t) (most := 3) (p := 0) (by omega) (Nat.zero_le _)
    have spJ := joined_spec t 3 0 (by omega) (Nat.zero_le _)
    generalize (joinedF t 3 0).1 = L at *
    generalize (joinedF t 3 0).2 = q at *
    have j2 : L.length ≤ 3 := j2
    have hlist := listB_J j3 (by omega)
    have spP := path_spec t L q hlist (by omega) (by omega) j4
    have hq2 := pathF_le (t := t) (l := L) j4
    generalize (pathF t L q).1 = p at *
    generalize (pathF t L q).2 = q2 at *
    have spW := path31_spec L p
    have hLl := tblRows_len L
    by_cases hz : (pathJ L p).2 = 0
    · obtain ⟨hv, hpl, h64, hT⟩ := pathJ_zero hz
      have h4 := (valid_path hv).2.1
      have hR4 := (planE_ok hpl).2
      have spT := tables31_spec L p (by omega)
      have hml := tabsM_len L p
      have hev := plain_eval hz
      have hone := fun k hk hk2 => plain_one hz (k := k) hk hk2
      have hrect := rect_tog (ts := tabsM L p) (R := rowsL L p)
      rw [← hT] at hrect
      have hclT : ((pathJ L p).1).cols.length = atN (tabsM L p) (p.steps.length + 1) := by
        rw [hT]; show (togC _ _).length = _; rw [togC_len, hml]
      have hrefl := refsOf_len (tabsM L p)
      have hrg := fun i q t h1 h2 => refsOf_get (tabsM L p) i q t h1 h2
      have hpv : plainV L p = ⟨p, [], refsOf (tabsM L p)⟩ := rfl
      have hc64 : ∀ t ∈ tabsM L p, t.cols.length ≤ 64 := fun t ht => by
        obtain ⟨i, hi, rfl⟩ := List.getElem_of_mem ht
        have h1 := tabsM_get L p (i := i) (by omega)
        rw [List.getElem?_eq_getElem hi] at h1
        rw [Option.some.inj h1]
        exact validB_cols (tabN_ok hv (by omega))
      have hc1 : 1 ≤ atN (tabsM L p) (tabsM L p).length := by
        have h1 : atN (tabsM L p) 1 = (tabN L p 0).cols.length := by
          have := atN_succ (ts := tabsM L p) (i := 0) (tabsM_get L p (Nat.zero_le _))
          rw [this]; simp [atN]
        have h2 := atN_mono (tabsM L p) (show 1 ≤ (tabsM L p).length by omega)
        have h3 := (tabN_id hv (Nat.zero_le p.steps.length)).2
        obtain ⟨h5, h6⟩ := findT_mem h3
        obtain ⟨i, hi, he⟩ := List.getElem_of_mem h5
        have := (j3 i hi).few.1
        rw [he] at this
        omega
      rw [hz] at spW
      rw [hpv] at hev
      have spE := evalV_spec L ⟨p, [], refsOf (tabsM L p)⟩
      rw [hev] at spE
      generalize (pathJ L p).1 = TW at *
      rw [← hml, ← hrefl] at hclT
      obtain ⟨TS, hTS⟩ : ∃ TS, TS = tabsM L p := ⟨_, rfl⟩
      rw [← hTS] at spT hone hrefl hrg hc64 hc1 spE hclT h64
      have htl := tblRows_len TS
      refine gEn env Tryz.func3 fun Γ hN hK hML => ?_
      (refine gGo ?_; intros)
      (refine gPC (spL) ?_; conv => whnf)
      (refine gGo ?_; intros)
      (refine gCA [] [(5, 70)] [] (roll_spec t) ?_; conv => whnf)
      (refine gGo ?_; intros)
      (refine gCA [(0, 70)] [] [] (spJ) ?_; conv => whnf)
      (refine gGo ?_; intros)
      (refine gCA [(0, 70)] [] [] (spP) ?_; conv => whnf)
      (refine gGo ?_; intros)
      (refine gPC (spW) ?_; conv => whnf)
      (refine gGo ?_; intros)
      (refine gPC (spT) ?_; conv => whnf)
      (refine gGo ?_; intros)
      refine W.ownCell 8 0 3 92 2 rfl rfl rfl rfl rfl ?_
      obtain ⟨RS, hRS⟩ : ∃ RS, RS = refsOf TS := ⟨_, rfl⟩
      rw [← hRS] at hrefl hrg hclT spE hone
      rw [← hTS, ← hRS] at hev
      have hR64 : RS.length ≤ 64 := by
        have h9 := hml
        rw [← hTS] at h9
        rw [hrefl, h9]; exact h64
      refine W.leG (mp := [(5, 5), (6, 6), (8, 8), (92, 92), (70, 70)]) (bo := []) (st' := ⟨[(3, .bp 70 0), (4, .sl (tblRows L) false), (5, .bp 5 0), (6, .bp 6 0), (7, .int .i64 0), (8, .bp 8 0), (41, .sl (tblRows TS) false), (42, .int .i64 (tblRows TS).length), (43, .int .i64 (0 : Nat))], [(5, [.rows 2 [p.row] none]), (6, [.rows 3 [TW.row] none]), (8, [.rows 4 [[.int .i64 p.start, .sl (stpRows p.steps) false, .nils, .osl 92 0 0 (rfRows (RS.take (atN TS 0))).length (rfRows (RS.take (atN TS 0))).length]] none]), (92, [.rows 2 (rfRows (RS.take (atN TS 0))) (some [])]), (70, [diceB t q2])], [5, 6, 8, 92, 70]⟩)
        (LeG.mq (.ci 5 (.ci 6 (.ci 8 (.ci 92 (.ci 70 .nil)))))) ?_
      refine W.loopG (fun m st => ∃ k : Nat, k ≤ TS.length ∧ m = TS.length - k ∧ st = ⟨[(3, .bp 70 0), (4, .sl (tblRows L) false), (5, .bp 5 0), (6, .bp 6 0), (7, .int .i64 0), (8, .bp 8 0), (41, .sl (tblRows TS) false), (42, .int .i64 (tblRows TS).length), (43, .int .i64 k)], [(5, [.rows 2 [p.row] none]), (6, [.rows 3 [TW.row] none]), (8, [.rows 4 [[.int .i64 p.start, .sl (stpRows p.steps) false, .nils, .osl 92 0 0 (rfRows (RS.take (atN TS k))).length (rfRows (RS.take (atN TS k))).length]] none]), (92, [.rows 2 (rfRows (RS.take (atN TS k))) (some [])]), (70, [diceB t q2])], [5, 6, 8, 92, 70]⟩)
        TS.length _ ⟨0, by omega, by omega, rfl⟩ ⟨[(5, 5), (6, 6), (8, 8), (92, 92), (70, 70)], [], [], LeG.mq (.ci 5 (.ci 6 (.ci 8 (.ci 92 (.ci 70 .nil)))))⟩ ?_
      rintro m st ⟨k, hk, rfl, rfl⟩
      (refine gGo ?_; intros)
      refine boolRes_split (fun hb => ?_) (fun hb => ?_) <;> conv => whnf
      · have hkl : k < TS.length := by omega
        have hg := tblRows_get hkl
        have htk : TS[k]? = some TS[k] := List.getElem?_eq_getElem hkl
        have hsu := atN_succ htk
        have hle := atN_le TS (k + 1)
        have hrk := fun (q : Nat) (hq : q < (TS[k]'hkl).cols.length) => hrg k q (TS[k]'hkl) htk hq
        generalize TS[k] = tk at *
        have hcl := colRows_len tk.cols
        (refine gGo ?_; intros)
        refine rowAt_of (r := tk.row) (by simpa using hg) ?_
        conv => whnf
        (refine gGo ?_; intros)
        refine W.leG (mp := [(5, 5), (6, 6), (8, 8), (92, 92), (70, 70), (10, 10)]) (bo := []) (st' := ⟨[(3, .bp 70 0), (4, .sl (tblRows L) false), (5, .bp 5 0), (6, .bp 6 0), (7, .int .i64 0), (8, .bp 8 0), (41, .sl (tblRows TS) false), (42, .int .i64 (tblRows TS).length), (10, .bp 10 0), (43, .int .i64 k), (48, .sl (colRows tk.cols) false), (49, .int .i64 (colRows tk.cols).length), (50, .int .i64 (0 : Nat))], [(5, [.rows 2 [p.row] none]), (6, [.rows 3 [TW.row] none]), (8, [.rows 4 [[.int .i64 p.start, .sl (stpRows p.steps) false, .nils, .osl 92 0 0 (rfRows (RS.take (atN TS k + 0))).length (rfRows (RS.take (atN TS k + 0))).length]] none]), (92, [.rows 2 (rfRows (RS.take (atN TS k + 0))) (some [])]), (70, [diceB t q2]), (10, [.rows 3 [tk.row] none])], [5, 6, 8, 92, 70, 10]⟩)
          (LeG.mq (.ci 5 (.ci 6 (.ci 8 (.ci 92 (.ci 70 (.ci 10 .nil))))))) ?_
        refine W.loopG (fun m st => ∃ q : Nat, q ≤ tk.cols.length ∧ m = tk.cols.length - q ∧ st = ⟨[(3, .bp 70 0), (4, .sl (tblRows L) false), (5, .bp 5 0), (6, .bp 6 0), (7, .int .i64 0), (8, .bp 8 0), (41, .sl (tblRows TS) false), (42, .int .i64 (tblRows TS).length), (10, .bp 10 0), (43, .int .i64 k), (48, .sl (colRows tk.cols) false), (49, .int .i64 (colRows tk.cols).length), (50, .int .i64 q)], [(5, [.rows 2 [p.row] none]), (6, [.rows 3 [TW.row] none]), (8, [.rows 4 [[.int .i64 p.start, .sl (stpRows p.steps) false, .nils, .osl 92 0 0 (rfRows (RS.take (atN TS k + q))).length (rfRows (RS.take (atN TS k + q))).length]] none]), (92, [.rows 2 (rfRows (RS.take (atN TS k + q))) (some [])]), (70, [diceB t q2]), (10, [.rows 3 [tk.row] none])], [5, 6, 8, 92, 70, 10]⟩)
          tk.cols.length _ ⟨0, by omega, by omega, rfl⟩ ⟨[(5, 5), (6, 6), (8, 8), (92, 92), (70, 70), (10, 10)], [], [], LeG.mq (.ci 5 (.ci 6 (.ci 8 (.ci 92 (.ci 70 (.ci 10 .nil))))))⟩ ?_
        rintro m st ⟨q, hq, rfl, rfl⟩
        have hn := rfRows_len (RS.take (atN TS k + q))
        rw [List.length_take] at hn
        (refine gGo ?_; intros)
        refine boolRes_split (fun hb => ?_) (fun hb => ?_) <;> conv => whnf
        · have hql : q < tk.cols.length := by omega
          have h1 := hrk q hql
          obtain ⟨g1, g2⟩ := List.getElem?_eq_some_iff.1 h1
          have hsn : rfRows (RS.take (atN TS k + (q + 1))) = rfRows (RS.take (atN TS k + q)) ++ [[.int .i64 tk.id, .int .i64 (q : Nat)]] := by
            rw [show atN TS k + (q + 1) = (atN TS k + q) + 1 by omega, List.take_succ_eq_append_getElem g1, g2]
            unfold rfRows
            rw [List.map_append]; rfl
          generalize rfRows (RS.take (atN TS k + q)) = A0 at *
          (refine gGo ?_; intros)
          refine ⟨⟨rowsSz_cons rfl rowsSz_nil, rfl⟩, fitsN (n := A0.length + 1) (b := 16) (by omega) (by omega), .inl ⟨rfl, rfl, ?_⟩⟩
          conv => whnf
          (refine gGo ?_; intros)
          refine ⟨_, _, ?_, ⟨q + 1, by omega, rfl, rfl⟩, [(5, 5), (6, 6), (8, 8), (92, 92), (70, 70), (10, 10)], [], [], LeG.mq (.ci 5 (.ci 6 (.cons 8 rfl rfl (.refl _) (by rw [hsn, List.length_append]; rfl) (.cons 92 rfl rfl (.refl _) (by rw [hsn]; rfl) (.ci 70 (.ci 10 .nil))))))⟩
          omega
        · have hqe : q = tk.cols.length := by omega
          rw [hqe, ← hsu]
          (refine gGo ?_; intros)
          refine ⟨_, _, ?_, ⟨k + 1, by omega, rfl, rfl⟩, [(5, 5), (6, 6), (8, 8), (92, 92), (70, 70)], [], [], LeG.mq (.ci 5 (.ci 6 (.ci 8 (.ci 92 (.ci 70 .nil)))))⟩
          omega
      · have hke : k = TS.length := by omega
        rw [hke, ← hrefl, List.take_length]
        refine gA ?_
        refine gD rfl ?_
        refine gG ?_
        conv => whnf
        have hrl := rfRows_len RS
        have hsz := rfRows_sz RS
        have hvr : Vw.row ⟨p, [], RS⟩ = [.int .i64 p.start, .sl (stpRows p.steps) false, .sl [] false, .sl (rfRows RS) false] := rfl
        have n1 := next_spec t q2 RS.length (by omega) hq2
        have r1 := nextV_range t q2 (n := (RS.length : Int)) (by omega)
        obtain ⟨ix, hix⟩ := Int.eq_ofNat_of_zero_le r1.1
        rw [hix] at r1 n1
        rw [← hrl] at n1
        have hixl : ix < RS.length := by omega
        refine W.leG (mp := [(6, 6), (8, 8), (70, 70)]) (bo := [92]) (st' := ⟨[(3, .bp 70 0), (4, .sl (tblRows L) false), (6, .bp 6 0), (8, .bp 8 0)], [(6, [.rows 3 [TW.row] none]), (8, [.rows 4 [[.int .i64 p.start, .sl (stpRows p.steps) false, .sl [] false, .sl (rfRows RS) false]] none]), (70, [diceB t (q2)])], [6, 8, 70]⟩)
          (LeG.mq (.ci 6 (.cons 8 (b1 := .rows 4 [[.int .i64 p.start, .sl (stpRows p.steps) false, .sl [] false, .sl (rfRows RS) false]] none) rfl rfl (.rows _ _ _ (by repeat' (first | exact trivial | exact ⟨Lent.refl _, rfl⟩ | exact ⟨Lent.norm _, rfl⟩ | exact ⟨Lent.whole rfl rfl (by first | rfl | exact List.length_append.symm | exact hlenR | simp) rfl (by first | exact .inl rfl | exact .inr rfl), rfl⟩ | apply And.intro))) rfl (.ci 70 .nil)))) ?_
        (refine gGo ?_; intros)
        (refine gPC (spE) ?_; conv => whnf)
        (refine gGo ?_; intros)
        (refine gCA [(0, 70)] [] [] (n1) ?_; conv => whnf)
        (refine gGs ?_; intros)
        have hslc : ((rfRows RS).take ((ix : Int) + 1).toNat).drop ((ix : Int)).toNat = rfRows [RS[ix]] := by
          rw [show ((ix : Int) + 1).toNat = ix + 1 by omega, Int.toNat_natCast]
          unfold rfRows
          rw [← List.map_take, ← List.map_drop, List.take_succ_eq_append_getElem hixl, List.drop_append_of_le_length (by rw [List.length_take]; omega), List.drop_of_length_le (by rw [List.length_take]; omega)]
          rfl
        refine gA ?_
        (refine gE env hN (by kernel_rfl) ?_; conv => whnf)
        (refine gGs ?_; intros)
        have hixc : ix < TW.cols.length := by omega
        have hon := hone ix hixl hixc
        have spE2 := evalV_spec L ⟨p, [], [RS[ix]]⟩
        rw [hon] at spE2
        have hvr2 : Vw.row ⟨p, [], [RS[ix]]⟩ = [.int .i64 p.start, .sl (stpRows p.steps) false, .sl [] false, .sl (rfRows [RS[ix]]) false] := rfl
        rw [hvr2] at spE2
        generalize rfRows [RS[ix]] = r1 at *
        have hgc := colRows_get hixc
        have hcw := colRows_len TW.cols
        generalize hcd : TW.cols[ix] = cd at *
        have spS := same3_spec TW TW
        rw [decide_eq_true rfl] at spS
        have spC1 := contains_rows_spec (t := TW) (rows := TW) hrect.1 hrect.1 (by omega) (by omega)
        rw [contB_self rfl] at spC1
        have hcr : ∀ (a : Int) (b : Str), RectT ⟨a, b, [cd]⟩ := fun a b c hc => by rw [List.mem_singleton.1 hc]; rfl
        have hcdl : cd.cells.length ≤ 4096 := by
          have h1 := hrect.1 cd (by rw [← hcd]; exact List.getElem_mem hixc)
          omega
        have spC2 := contains_rows_spec (t := ⟨TW.id, TW.name, [cd]⟩) (rows := ⟨0, [], [cd]⟩) (hcr _ _) (hcr _ _) (by show cd.cells.length ≤ _; omega) (by show cd.cells.length ≤ _; omega)
        rw [contB_self (t := ⟨TW.id, TW.name, [cd]⟩) (u := ⟨0, [], [cd]⟩) rfl] at spC2
        refine W.leG (mp := [(6, 6), (8, 8), (12, 12)]) (bo := []) (st' := ⟨[(4, .sl (tblRows L) false), (6, .bp 6 0), (8, .bp 8 0), (12, .bp 12 0), (13, .int .i64 0), (14, .int .i64 ix)], [(6, [.rows 3 [TW.row] none]), (8, [.rows 4 [[.int .i64 p.start, .sl (stpRows p.steps) false, .sl [] false, .sl r1 false]] none]), (12, [.rows 3 [TW.row] none])], [6, 8, 12]⟩)
          (LeG.mq (.ci 6 (.cons 8 rfl rfl (.refl _) (by rw [← hslc]; rfl) (.ci 12 .nil)))) ?_
        (refine gGo ?_; intros)
        (refine gPC (spE2) ?_; conv => whnf)
        (refine gGo ?_; intros)
        (refine gPC (spS) ?_; conv => whnf)
        (refine gGo ?_; intros)
        (refine gPC (spC1) ?_; conv => whnf)
        (refine gGo ?_; intros)
        refine rowAt_of (r := cd.row) (by rw [Int.toNat_natCast]; exact hgc) ?_
        conv => whnf
        (refine gGo ?_; intros)
        refine rowAt_of (r := cd.row) (by rw [Int.toNat_natCast]; exact hgc) ?_
        conv => whnf
        (refine gGo ?_; intros)
        (refine gPC (spC2) ?_; conv => whnf)
        (refine gGo ?_; intros)
        (refine gPC (spA) ?_; conv => whnf)
        (refine gGr ?_; intros)
        exact ret0 rfl rfl rfl
    · refine gEn env Tryz.func3 fun Γ hN hK hML => ?_
      generalize (pathJ L p).2 = e at *
      (refine gGo ?_; intros)
      (refine gPC (spL) ?_; conv => whnf)
      (refine gGo ?_; intros)
      (refine gCA [] [(5, 70)] [] (roll_spec t) ?_; conv => whnf)
      (refine gGo ?_; intros)
      (refine gCA [(0, 70)] [] [] (spJ) ?_; conv => whnf)
      (refine gGo ?_; intros)
      (refine gCA [(0, 70)] [] [] (spP) ?_; conv => whnf)
      (refine gGo ?_; intros)
      (refine gPC (spW) ?_; conv => whnf)
      (refine gGo ?_; intros)
      (refine gPC (spA) ?_; conv => whnf)
      (refine gGr ?_; intros)
      exact ret0 rfl rfl rfl
  · rw [decide_eq_false hll] at spL
    refine gEn env Tryz.func3 fun Γ hN hK hML => ?_
    (refine gGo ?_; intros)
    (refine gPC (spL) ?_; conv => whnf)
    (refine gGo ?_; intros)
    (refine gPC (spA) ?_; conv => whnf)
    (refine gGr ?_; intros)
    exact ret0 rfl rfl rfl
theorem plain_calls {w : World} {v0 : Value} {u0 : V} (r0 : VRel w (fun _ => False) (fun _ _ => none) u0 v0) (a0 : argShape T 2 22 u0) (hg : GRel w (fun _ => False)) :
    Calls Tryz.prog 3 #[v0] w fun e w' => e = .returned (.bool true) ∧ Go.RowKit.Below w.heap.size w w' := by
  obtain ⟨l, rfl⟩ := arg_ints a0
  refine Spec.law (plain_law l) (cargs := [v0]) rfl (fun j u c hj hc => ?_) rfl hg
  match j with
  | 0 => cases hj; cases hc; exact r0
  | j + 1 => cases hj
end Go.Sx.Sp
