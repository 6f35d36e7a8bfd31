/- Views as the document tells them, which tables contain which rows, and the law. -/
import Derived.Test.YthmohnenobkmcaaGreatDoorJTen
import Derived.Test.YthmohnenobkmcaaGreatDoorJNine
import Derived.Test.YthmohnenobkmcaaGreatDoorJSeven
import Derived.Test.YthmohnenobkmcaaGreatDoorSxFour
set_option linter.unusedVariables false
set_option linter.unusedSimpArgs false
namespace Go.Sx.Sp
open Go Go.Sx Go.Proofs
attribute [local irreducible] GoodW famL
end Go.Sx.Sp
namespace Go.Sx.Sp
open Go Go.Sx Go.Proofs
attribute [local irreducible] GoodW famL
def cellV (l : List Table) (p : Pth) (r : Rf) (row : List Nat) : Cell := (colC l r).cells.getD (row.getD (plcI p r.t) 0) cell0
def allK (l : List Table) (v : Vw) (k : Nat) (row : List Nat) : Bool := (v.fs.take k).all fun f => keepsB f (cellV l v.path f.r row)
theorem keptR_filter (l : List Table) (v : Vw) : ∀ k, k ≤ v.fs.length → keptR l v k = (rowsL l v.path).filter (allK l v k)
  | 0, _ => by
    show rowsL l v.path = _
    exact (List.filter_eq_self.2 fun _ _ => rfl).symm
  | k + 1, h => by
    have ih := keptR_filter l v k (by omega)
    rw [keptR_succ l v (show k < v.fs.length by omega), ih]
    unfold keepR
    rw [List.filter_filter]
    refine List.filter_congr fun row _ => ?_
    unfold allK dropB
    rw [List.take_succ_eq_append_getElem (show k < v.fs.length by omega), List.all_append, Bool.not_not, Bool.and_comm]
    simp only [List.all_cons, List.all_nil, Bool.and_true]
    rfl
end Go.Sx.Sp
namespace Go.Sx.Sp
open Go Go.Sx Go.Proofs
attribute [local irreducible] GoodW famL
end Go.Sx.Sp
namespace Go.Sx.Sp
open Go Go.Sx Go.Proofs
attribute [local irreducible] GoodW famL
end Go.Sx.Sp
namespace Go.Sx.Sp
open Go Go.Sx Go.Proofs
attribute [local irreducible] GoodW famL
def RectT (t : Table) : Prop := ∀ c ∈ t.cols, c.cells.length = rowsN t
def agB (t : Table) (i : Nat) (rows : Table) (k n : Nat) : Bool := (List.range n).all fun c => (cellT rows c k).null || fitC (cellT rows c k) (cellT t c i)
theorem agB_succ (t : Table) (i : Nat) (rows : Table) (k n : Nat) : agB t i rows k (n + 1) = (agB t i rows k n && ((cellT rows n k).null || fitC (cellT rows n k) (cellT t n i))) := by
  unfold agB
  rw [List.range_succ, List.all_append]
  simp
theorem agB_false {t : Table} {i : Nat} {rows : Table} {k n m : Nat} (h : agB t i rows k (n + 1) = false) (hm : n < m) : agB t i rows k m = false := by
  unfold agB at h ⊢
  rw [List.all_eq_false] at h ⊢
  obtain ⟨c, hc, h2⟩ := h
  exact ⟨c, List.mem_range.2 (by have := List.mem_range.1 hc; omega), h2⟩
def anyB (t rows : Table) (k n : Nat) : Bool := (List.range n).any fun i => agB t i rows k rows.cols.length
theorem anyB_succ (t rows : Table) (k n : Nat) : anyB t rows k (n + 1) = (anyB t rows k n || agB t n rows k rows.cols.length) := by
  unfold anyB
  rw [List.range_succ, List.any_append]
  simp
theorem anyB_true {t rows : Table} {k n m : Nat} (h : anyB t rows k n = true) (hm : n ≤ m) : anyB t rows k m = true := by
  unfold anyB at h ⊢
  rw [List.any_eq_true] at h ⊢
  obtain ⟨c, hc, h2⟩ := h
  exact ⟨c, List.mem_range.2 (by have := List.mem_range.1 hc; omega), h2⟩
def contB (t rows : Table) : Bool := decide (t.cols.length = rows.cols.length) && (List.range (rowsN rows)).all fun k => anyB t rows k (rowsN t)
theorem contB_false {t rows : Table} {k : Nat} (hk : k < rowsN rows) (h : anyB t rows k (rowsN t) = false) : contB t rows = false := by
  unfold contB
  rw [Bool.and_eq_false_iff]
  right
  rw [List.all_eq_false]
  exact ⟨k, List.mem_range.2 hk, by rw [h]; decide⟩
theorem cellT_get {t : Table} (h : RectT t) {c i : Nat} (hc : c < t.cols.length) (hi : i < rowsN t) : (cellRows (t.cols[c]).cells)[i]? = some (cellT t c i).row ∧ (cellRows (t.cols[c]).cells).length = rowsN t := by
  have hl := h _ (List.getElem_mem hc)
  refine ⟨?_, by rw [cellRows_len, hl]⟩
  rw [cellRows_get (by omega)]
  unfold cellT
  rw [List.getD_eq_getElem?_getD (l := t.cols), List.getElem?_eq_getElem hc]
  simp only [Option.getD_some]
  rw [List.getD_eq_getElem?_getD, List.getElem?_eq_getElem (by omega)]; rfl
set_option maxHeartbeats 8000000 in
theorem agrees_spec {t rows : Table} (ht : RectT t) (hr : RectT rows) (hlen : t.cols.length = rows.cols.length) {i k : Nat} (hi : i < rowsN t) (hk : k < rowsN rows) : Spec Tryz.prog 55 [.agg t.row, .int .i64 i, .agg rows.row, .int .i64 k] [] (.bool (agB t i rows k rows.cols.length)) [] := by
  have hcl := colRows_len rows.cols
  have hcl2 := colRows_len t.cols
  refine gEn env Tryz.func55 fun Γ hN hK hML => ?_
  refine gA ?_
  (refine gE env hN (by kernel_rfl) ?_; conv => whnf)
  (refine gGs ?_; intros)
  refine W.leG (mp := []) (bo := [4, 6]) (st' := ⟨[(1, .int .i64 i), (3, .int .i64 k), (4, .ro t.row 0), (6, .ro rows.row 0)], [], []⟩)
    (LeG.mk' rfl rfl rfl ⟨⟨_, .refl _, rfl⟩, ⟨_, .refl _, rfl⟩, ⟨_, .bp 4 0 3 t.row none rfl rfl (by simp [Table.row]) (.inr rfl), rfl⟩, ⟨_, .bp 6 0 3 rows.row none rfl rfl (by simp [Table.row]) (.inr rfl), rfl⟩, trivial⟩ .nil rfl rfl (by rw [hK]; rfl)) ?_
  (refine gGo ?_; intros)
  refine W.leG (mp := []) (bo := []) (st' := ⟨[(1, .int .i64 i), (3, .int .i64 k), (4, .ro t.row 0), (6, .ro rows.row 0), (13, .sl (colRows rows.cols) false), (14, .int .i64 (colRows rows.cols).length), (15, .int .i64 (0 : Nat))], [], []⟩)
    (LeG.mq .nil) ?_
  refine W.loopG (fun m st => ∃ c : Nat, c ≤ rows.cols.length ∧ agB t i rows k c = true ∧ m = rows.cols.length - c ∧ st = ⟨[(1, .int .i64 i), (3, .int .i64 k), (4, .ro t.row 0), (6, .ro rows.row 0), (13, .sl (colRows rows.cols) false), (14, .int .i64 (colRows rows.cols).length), (15, .int .i64 (c : Nat))], [], []⟩)
    rows.cols.length _ ⟨0, by omega, rfl, by omega, rfl⟩ ⟨[], [], [], .mq .nil⟩ ?_
  rintro m st ⟨c, hc, hag, rfl, rfl⟩
  (refine gGo ?_; intros)
  refine boolRes_split (fun hb => ?_) (fun hb => ?_) <;> conv => whnf
  · have hlt : c < rows.cols.length := by omega
    have hlt2 : c < t.cols.length := by omega
    have hg1 := colRows_get hlt
    have hg2 := colRows_get hlt2
    obtain ⟨hx1, hx2⟩ := cellT_get hr hlt hk
    obtain ⟨hy1, hy2⟩ := cellT_get ht hlt2 hi
    have hsn := agB_succ t i rows k c
    have hfa := fun h => agB_false (t := t) (i := i) (rows := rows) (k := k) (n := c) (m := rows.cols.length) h hlt
    rw [hag, Bool.true_and] at hsn
    generalize rows.cols[c] = cr at *
    generalize t.cols[c] = ct at *
    obtain ⟨xn, xt, hx⟩ : ∃ xn xt, cellT rows c k = ⟨xn, xt⟩ := ⟨_, _, rfl⟩
    obtain ⟨yn, yt, hy⟩ : ∃ yn yt, cellT t c i = ⟨yn, yt⟩ := ⟨_, _, rfl⟩
    rw [hx] at hx1 hsn
    rw [hy] at hy1 hsn
    clear hx hy
    have hxr : Cell.row ⟨xn, xt⟩ = [.bool xn, .str xt] := rfl
    have hyr : Cell.row ⟨yn, yt⟩ = [.bool yn, .str yt] := rfl
    rw [hxr] at hx1
    rw [hyr] at hy1
    (refine gGo ?_; intros)
    refine rowAt_of (r := cr.row) (by simpa using hg1) ?_
    conv => whnf
    (refine gGo ?_; intros)
    refine rowAt_of (r := ct.row) (by simpa using hg2) ?_
    conv => whnf
    (refine gGo ?_; intros)
    refine rowAt_of (by simpa using hy1) ?_
    conv => whnf
    (refine gGo ?_; intros)
    refine rowAt_of (by simpa using hx1) ?_
    conv => whnf
    (refine gGo ?_; intros)
    cases xn with
    | true =>
      have hsn2 : agB t i rows k (c + 1) = true := by rw [hsn]; rfl
      conv => whnf
      (refine gGo ?_; intros)
      refine ⟨_, _, ?_, ⟨c + 1, by omega, hsn2, rfl, rfl⟩, ⟨[], [], [], .mq .nil⟩⟩
      omega
    | false =>
      cases yn with
      | true =>
        have hsn2 : agB t i rows k (c + 1) = false := by rw [hsn]; rfl
        rw [hfa hsn2]
        conv => whnf
        (refine gGr ?_; intros)
        exact ret0 rfl rfl rfl
      | false =>
        by_cases he : yt = xt
        · have hsn2 : agB t i rows k (c + 1) = true := by rw [hsn]; unfold fitC; simp [he]
          conv => whnf
          (refine gGo ?_; intros)
          refine rowAt_of (by simpa using hx1) ?_
          conv => whnf
          (refine gGo ?_; intros)
          refine gL (fun hh => hh he) ?_
          conv => whnf
          (refine gGo ?_; intros)
          refine ⟨_, _, ?_, ⟨c + 1, by omega, hsn2, rfl, rfl⟩, ⟨[], [], [], .mq .nil⟩⟩
          omega
        · have hsn2 : agB t i rows k (c + 1) = false := by rw [hsn]; unfold fitC; simp [Ne.symm he]
          rw [hfa hsn2]
          conv => whnf
          (refine gGo ?_; intros)
          refine rowAt_of (by simpa using hx1) ?_
          conv => whnf
          (refine gGr ?_; intros)
          exact ret0 rfl rfl rfl
  · have hce : c = rows.cols.length := by omega
    rw [hce] at hag
    rw [hag]
    (refine gGr ?_; intros)
    exact ret0 rfl rfl rfl
set_option maxHeartbeats 8000000 in
theorem contains_rows_spec {t rows : Table} (ht : RectT t) (hr : RectT rows) (hbt : rowsN t ≤ 1000000) (hbr : rowsN rows ≤ 1000000) : Spec Tryz.prog 21 [.agg t.row, .agg rows.row] [] (.bool (contB t rows)) [] := by
  have hcl := colRows_len rows.cols
  have hcl2 := colRows_len t.cols
  have sp1 := rows_spec t
  have sp2 := rows_spec rows
  refine gEn env Tryz.func21 fun Γ hN hK hML => ?_
  refine gA ?_
  (refine gE env hN (by kernel_rfl) ?_; conv => whnf)
  (refine gGs ?_; intros)
  refine W.leG (mp := []) (bo := [2, 3]) (st' := ⟨[(2, .ro t.row 0), (3, .ro rows.row 0)], [], []⟩)
    (LeG.mk' rfl rfl rfl ⟨⟨_, .bp 2 0 3 t.row none rfl rfl (by simp [Table.row]) (.inr rfl), rfl⟩, ⟨_, .bp 3 0 3 rows.row none rfl rfl (by simp [Table.row]) (.inr rfl), rfl⟩, trivial⟩ .nil rfl rfl (by rw [hK]; rfl)) ?_
  by_cases hlen : t.cols.length = rows.cols.length
  · (refine gGo ?_; intros)
    (refine gPC (sp2) ?_; conv => whnf)
    (refine gGo ?_; intros)
    refine W.leG (mp := []) (bo := []) (st' := ⟨[(2, .ro t.row 0), (3, .ro rows.row 0), (16, .int .i64 (rowsN rows : Nat)), (17, .int .i64 (0 : Nat))], [], []⟩)
      (LeG.mq .nil) ?_
    refine W.loopG (fun m st => ∃ k : Nat, k ≤ rowsN rows ∧ (∀ k', k' < k → anyB t rows k' (rowsN t) = true) ∧ m = rowsN rows - k ∧ st = ⟨[(2, .ro t.row 0), (3, .ro rows.row 0), (16, .int .i64 (rowsN rows : Nat)), (17, .int .i64 (k : Nat))], [], []⟩)
      (rowsN rows) _ ⟨0, by omega, fun k' h => by omega, by omega, rfl⟩ ⟨[], [], [], .mq .nil⟩ ?_
    rintro m st ⟨k, hk, hall, rfl, rfl⟩
    (refine gGo ?_; intros)
    refine boolRes_split (fun hb => ?_) (fun hb => ?_) <;> conv => whnf
    · have hkl : k < rowsN rows := by omega
      have hcf := contB_false (t := t) hkl
      (refine gGo ?_; intros)
      refine W.leG (mp := []) (bo := []) (st' := ⟨[(2, .ro t.row 0), (3, .ro rows.row 0), (16, .int .i64 (rowsN rows : Nat)), (17, .int .i64 (k : Nat)), (5, .int .i64 k), (6, .bool (anyB t rows k 0)), (7, .int .i64 (0 : Nat))], [], []⟩)
        (LeG.mq .nil) ?_
      refine W.loopG (fun m st => ∃ i : Nat, i ≤ rowsN t ∧ m = rowsN t - i ∧ st = ⟨[(2, .ro t.row 0), (3, .ro rows.row 0), (16, .int .i64 (rowsN rows : Nat)), (17, .int .i64 (k : Nat)), (5, .int .i64 k), (6, .bool (anyB t rows k i)), (7, .int .i64 i)], [], []⟩)
        (rowsN t) _ ⟨0, by omega, by omega, rfl⟩ ⟨[], [], [], .mq .nil⟩ ?_
      rintro m st ⟨i, hi, rfl, rfl⟩
      have hsn := anyB_succ t rows k i
      (refine gGo ?_; intros)
      by_cases hil : i < rowsN t
      · have spA := agrees_spec ht hr hlen hil hkl
        have htr := fun h => anyB_true (t := t) (rows := rows) (k := k) (n := i) (m := rowsN t) h hi
        generalize anyB t rows k i = fd at *
        generalize agB t i rows k rows.cols.length = ag at *
        cases fd with
        | true =>
          have htr := htr rfl
          (refine gGo ?_; intros)
          (refine gPC (sp1) ?_; conv => whnf)
          (refine gGo ?_; intros)
          refine ⟨_, _, ?_, ⟨k + 1, by omega, fun k' hk' => ?_, rfl, rfl⟩, ⟨[], [], [], .mq .nil⟩⟩
          · omega
          · by_cases e : k' = k
            · rw [e]; exact htr
            · exact hall k' (by omega)
        | false =>
          rw [Bool.false_or] at hsn
          (refine gGo ?_; intros)
          (refine gPC (sp1) ?_; conv => whnf)
          (refine gGo ?_; intros)
          (refine gPC (spA) ?_; conv => whnf)
          (refine gGo ?_; intros)
          refine ⟨_, _, ?_, ⟨i + 1, by omega, rfl, rfl⟩, [], [], [], LeG.mk' rfl rfl rfl (by rw [hsn]; exact (by repeat' (first | exact trivial | exact ⟨_, .refl _, rfl⟩ | apply And.intro))) .nil rfl rfl (by rw [hK]; rfl)⟩
          omega
      · have hie : i = rowsN t := by omega
        rw [hie]
        cases hfd : anyB t rows k (rowsN t) with
        | true =>
          (refine gGo ?_; intros)
          (refine gPC (sp1) ?_; conv => whnf)
          (refine gGo ?_; intros)
          refine ⟨_, _, ?_, ⟨k + 1, by omega, fun k' hk' => ?_, rfl, rfl⟩, ⟨[], [], [], .mq .nil⟩⟩
          · omega
          · by_cases e : k' = k
            · rw [e]; exact hfd
            · exact hall k' (by omega)
        | false =>
          rw [hcf hfd]
          (refine gGo ?_; intros)
          (refine gPC (sp1) ?_; conv => whnf)
          (refine gGr ?_; intros)
          exact ret0 rfl rfl rfl
    · have hke : k = rowsN rows := by omega
      have hct : contB t rows = true := by
        unfold contB
        rw [decide_eq_true hlen, Bool.true_and, List.all_eq_true]
        intro k' hk'
        exact hall k' (by have := List.mem_range.1 hk'; omega)
      rw [hct]
      (refine gGr ?_; intros)
      exact ret0 rfl rfl rfl
  · have hcf : contB t rows = false := by
      unfold contB
      rw [decide_eq_false hlen, Bool.false_and]
    rw [hcf]
    (refine gGr ?_; intros)
    exact ret0 rfl rfl rfl
end Go.Sx.Sp
namespace Go.Sx.Sp
open Go Go.Sx Go.Proofs
attribute [local irreducible] GoodW famL
def aw5 : Table := ⟨5, [], [⟨[110], [⟨false, [49]⟩, ⟨true, []⟩, ⟨false, [50]⟩]⟩]⟩
def awV : Vw := ⟨⟨5, []⟩, [⟨⟨5, 0⟩, 2, [49]⟩], [⟨5, 0⟩, ⟨5, 0⟩]⟩
def awT : Table := ⟨5, [], [⟨[110], [⟨false, [50]⟩]⟩, ⟨[110], [⟨false, [50]⟩]⟩]⟩
theorem aw_eval : evalV [aw5] awV = (awT, 0) := by kernel_rfl
theorem aw_cont : contB aw5 awT = false := by kernel_rfl
set_option maxHeartbeats 8000000 in
theorem awake34_spec : Spec Tryz.prog 12 [] [] (.bool true) [] := by
  have sp1 := evalV_spec [aw5] awV
  rw [aw_eval] at sp1
  have sp2 := rows3_spec awT
  have sp3 := contains_rows_spec (t := aw5) (rows := awT) (fun c hc => by simp [aw5] at hc; subst hc; rfl) (fun c hc => by simp [awT] at hc; subst hc; rfl) (by decide) (by decide)
  rw [aw_cont] at sp3
  refine gEn env Tryz.func12 fun Γ hN hK hML => ?_
  (refine gGo ?_; intros)
  (refine gPC (sp1) ?_; conv => whnf)
  (refine gGo ?_; intros)
  (refine gPC (sp2) ?_; conv => whnf)
  (refine gGo ?_; intros)
  (refine gPC (sp3) ?_; conv => whnf)
  (refine gGr ?_; intros)
  exact ret0 rfl rfl rfl
end Go.Sx.Sp
namespace Go.Sx.Sp
open Go Go.Sx Go.Proofs
attribute [local irreducible] GoodW famL
def refsB (t : Table) : List Rf := (List.range t.cols.length).map fun i => ⟨t.id, (i : Nat)⟩
def refsOf (ts : List Table) : List Rf := ts.flatMap refsB
theorem refsB_len (t : Table) : (refsB t).length = t.cols.length := by simp [refsB]
theorem refsOf_len : ∀ ts : List Table, (refsOf ts).length = atN ts ts.length
  | [] => rfl
  | t :: ts => by
    have ih := refsOf_len ts
    show (refsB t ++ refsOf ts).length = _
    rw [List.length_append, refsB_len, ih]
    simp [atN]
theorem refsOf_get : ∀ (ts : List Table) (i q : Nat) (t : Table), ts[i]? = some t → q < t.cols.length → (refsOf ts)[atN ts i + q]? = some ⟨t.id, (q : Nat)⟩
  | [], i, q, t, h, _ => by simp at h
  | t' :: ts, 0, q, t, h, hq => by
    cases h
    show (refsB t' ++ refsOf ts)[0 + q]? = _
    rw [Nat.zero_add, List.getElem?_append_left (by rw [refsB_len]; exact hq)]
    simp [refsB, hq]
  | t' :: ts, i + 1, q, t, h, hq => by
    have ih := refsOf_get ts i q t h hq
    have e : atN (t' :: ts) (i + 1) = t'.cols.length + atN ts i := by simp [atN]
    show (refsB t' ++ refsOf ts)[atN (t' :: ts) (i + 1) + q]? = _
    rw [e, List.getElem?_append_right (by rw [refsB_len]; omega), refsB_len, show t'.cols.length + atN ts i + q - t'.cols.length = atN ts i + q by omega, ih]
end Go.Sx.Sp
namespace Go.Sx.Sp
open Go Go.Sx Go.Proofs
attribute [local irreducible] GoodW famL
section
variable {l : List Table} {p : Pth}
end
end Go.Sx.Sp
namespace Go.Sx.Sp
open Go Go.Sx Go.Proofs
attribute [local irreducible] GoodW famL
theorem rfRows_sz (l : List Rf) : rowsSz (rfRows l) 2 := by
  unfold rowsSz
  intro r hr
  obtain ⟨s, _, rfl⟩ := List.mem_map.1 hr
  rfl
end Go.Sx.Sp
namespace Go.Sx.Sp
open Go Go.Sx Go.Proofs
attribute [local irreducible] GoodW famL
theorem pathGo_steps (t : List Int) (E : List (List Int)) : ∀ k s, (pathGo t E k s).steps.length ≤ s.steps.length + k
  | 0, s => Nat.le_refl _
  | k + 1, s => by
    have ih := pathGo_steps t E k (pathStep t E s)
    have h1 : (pathStep t E s).steps.length ≤ s.steps.length + 1 := by
      unfold pathStep
      repeat' split
      all_goals first | exact Nat.le_succ _ | (unfold pathAdd; simp)
    show (pathGo t E k (pathStep t E s)).steps.length ≤ _
    omega
theorem pathF_steps (t : List Int) (l : List Table) (q : Nat) : (pathF t l q).1.steps.length ≤ 4 := by
  have h1 := pathGo_steps t (edges l) (nextV t (nextP t q) 4).toNat ⟨[(l.getD (nextV t q l.length).toNat Table.zero).id], [], nextP t (nextP t q)⟩
  have h2 := nextV_range t (nextP t q) (n := 4) (by omega)
  show (pathGo t (edges l) (nextV t (nextP t q) 4).toNat ⟨[(l.getD (nextV t q l.length).toNat Table.zero).id], [], nextP t (nextP t q)⟩).steps.length ≤ 4
  simp only [List.length_nil] at h1
  omega
def sWords : List Str := [[97], [98], [99], []]
noncomputable def fltStep (t : List Int) (all : List Rf) (s : List Flt × Nat) : List Flt × Nat :=
  let r := all.getD (nextV t s.2 all.length).toNat ⟨0, 0⟩
  let kd := 1 + nextV t (nextP t s.2) 4
  let q2 := nextP t (nextP t s.2)
  if kd ≤ 2 then (s.1 ++ [⟨r, kd, wordF sWords t q2⟩], nextP t q2) else (s.1 ++ [⟨r, kd, []⟩], q2)
noncomputable def fltGo (t : List Int) (all : List Rf) : Nat → List Flt × Nat → List Flt × Nat
  | 0, s => s
  | n + 1, s => fltGo t all n (fltStep t all s)
def rfStep (t : List Int) (all : List Rf) (s : List Rf × Nat) : List Rf × Nat := (s.1 ++ [all.getD (nextV t s.2 all.length).toNat ⟨0, 0⟩], nextP t s.2)
def rfGo (t : List Int) (all : List Rf) : Nat → List Rf × Nat → List Rf × Nat
  | 0, s => s
  | n + 1, s => rfGo t all n (rfStep t all s)
noncomputable def someF (t : List Int) (l : List Table) (q : Nat) : Vw × Nat :=
  let p := pathF t l q
  let all := refsOf (tabsM l p.1)
  let F := fltGo t all (nextV t p.2 3).toNat ([], nextP t p.2)
  let C := rfGo t all (nextV t F.2 4).toNat ([], nextP t F.2)
  (⟨p.1, F.1, C.1⟩, C.2)
theorem fltStep_q {t : List Int} {all : List Rf} {s : List Flt × Nat} (h : s.2 ≤ t.length) : (fltStep t all s).2 ≤ t.length ∧ (fltStep t all s).1.length = s.1.length + 1 := by
  unfold fltStep
  simp only
  have h1 := nextP_le (nextP_le h)
  split
  · exact ⟨nextP_le h1, by simp⟩
  · exact ⟨h1, by simp⟩
theorem fltGo_q {t : List Int} {all : List Rf} : ∀ n {s : List Flt × Nat}, s.2 ≤ t.length → (fltGo t all n s).2 ≤ t.length ∧ (fltGo t all n s).1.length = s.1.length + n
  | 0, s, h => ⟨h, rfl⟩
  | n + 1, s, h => by
    have h1 := fltStep_q (all := all) h
    have := fltGo_q (all := all) n h1.1
    exact ⟨this.1, by show (fltGo t all n (fltStep t all s)).1.length = _; omega⟩
theorem rfGo_q {t : List Int} {all : List Rf} : ∀ n {s : List Rf × Nat}, s.2 ≤ t.length → (rfGo t all n s).2 ≤ t.length ∧ (rfGo t all n s).1.length = s.1.length + n
  | 0, s, h => ⟨h, rfl⟩
  | n + 1, s, h => by
    have h1 : (rfStep t all s).2 ≤ t.length := nextP_le h
    have := rfGo_q (all := all) n h1
    refine ⟨this.1, ?_⟩
    show (rfGo t all n (rfStep t all s)).1.length = _
    rw [this.2]
    unfold rfStep
    simp; omega
end Go.Sx.Sp
namespace Go.Sx.Sp
open Go Go.Sx Go.Proofs
attribute [local irreducible] GoodW famL
theorem rfRows_snoc (a : List Rf) (r : Rf) : rfRows (a ++ [r]) = rfRows a ++ [r.row] := by simp [rfRows]
theorem fltRows_snoc (a : List Flt) (r : Flt) : fltRows (a ++ [r]) = fltRows a ++ [r.row] := by simp [fltRows]
set_option maxHeartbeats 32000000 in
theorem some_own (t : List Int) (l : List Table) (q : Nat) (hv : listB l = true) (hl : l.length ≤ 100) (hl0 : 0 < l.length) (hq : q ≤ t.length) (h1 : 1 ≤ (refsOf (tabsM l (pathF t l q).1)).length) (h64 : (refsOf (tabsM l (pathF t l q).1)).length ≤ 1000) :
    Spec Tryz.prog 22 [.bp 0 0, .sl (tblRows l) false] [(0, diceB t q)]
      (.agg [.int .i64 (someF t l q).1.path.start, .sl (stpRows (someF t l q).1.path.steps) false, .osl 93 0 0 (fltRows (someF t l q).1.fs).length (fltRows (someF t l q).1.fs).length, .osl 94 0 0 (rfRows (someF t l q).1.cs).length (rfRows (someF t l q).1.cs).length])
      [(0, diceB t (someF t l q).2), (93, .rows 4 (fltRows (someF t l q).1.fs) (some [])), (94, .rows 2 (rfRows (someF t l q).1.cs) (some []))] := by
  have spP := path_spec t l q hv hl hl0 hq
  have hq2 := pathF_le (t := t) (l := l) hq
  have hps := pathF_steps t l q
  have spT := tables31_spec l (pathF t l q).1 (by omega)
  have hF : someF t l q = (⟨(pathF t l q).1, (fltGo t (refsOf (tabsM l (pathF t l q).1)) (nextV t (pathF t l q).2 3).toNat ([], nextP t (pathF t l q).2)).1, (rfGo t (refsOf (tabsM l (pathF t l q).1)) (nextV t (fltGo t (refsOf (tabsM l (pathF t l q).1)) (nextV t (pathF t l q).2 3).toNat ([], nextP t (pathF t l q).2)).2 4).toNat ([], nextP t (fltGo t (refsOf (tabsM l (pathF t l q).1)) (nextV t (pathF t l q).2 3).toNat ([], nextP t (pathF t l q).2)).2)).1⟩, (rfGo t (refsOf (tabsM l (pathF t l q).1)) (nextV t (fltGo t (refsOf (tabsM l (pathF t l q).1)) (nextV t (pathF t l q).2 3).toNat ([], nextP t (pathF t l q).2)).2 4).toNat ([], nextP t (fltGo t (refsOf (tabsM l (pathF t l q).1)) (nextV t (pathF t l q).2 3).toNat ([], nextP t (pathF t l q).2)).2)).2) := rfl
  rw [hF]
  clear hF
  generalize (pathF t l q).1 = p at *
  generalize (pathF t l q).2 = q1 at *
  obtain ⟨TS, hTS⟩ : ∃ TS, TS = tabsM l p := ⟨_, rfl⟩
  have hrefl := refsOf_len (tabsM l p)
  have hrg := fun i q t h1 h2 => refsOf_get (tabsM l p) i q t h1 h2
  rw [← hTS] at h1 h64 spT hrefl hrg ⊢
  obtain ⟨RS, hRS⟩ : ∃ RS, RS = refsOf TS := ⟨_, rfl⟩
  rw [← hRS] at h1 h64 hrefl hrg ⊢
  have htl := tblRows_len TS
  have n1 := next_spec t q1 3 (by decide) hq2
  have v1 := nextV_range t q1 (n := 3) (by decide)
  obtain ⟨K, hK⟩ := Int.eq_ofNat_of_zero_le v1.1
  rw [hK] at n1 v1 ⊢
  rw [Int.toNat_natCast]
  have hq3 := nextP_le hq2
  generalize nextP t q1 = q3 at *
  refine gEn env Tryz.func22 fun Γ hN hK hML => ?_
  (refine gGo ?_; intros)
  (refine gCA [(0, 0)] [] [] (spP) ?_; conv => whnf)
  (refine gGo ?_; intros)
  (refine gPC (spT) ?_; conv => whnf)
  (refine gGo ?_; intros)
  refine W.ownCell 5 0 2 93 4 rfl rfl rfl rfl rfl ?_
  refine W.ownCell 5 0 3 94 2 rfl rfl rfl rfl rfl ?_
  refine W.ownNil 6 92 2 rfl rfl ?_
  refine W.leG (mp := [(0, 0), (4, 4), (5, 5), (93, 93), (94, 94), (92, 92)]) (bo := []) (st' := ⟨[(0, .bp 0 0), (4, .bp 4 0), (5, .bp 5 0), (6, .osl 92 0 0 (rfRows (RS.take (atN TS 0))).length (rfRows (RS.take (atN TS 0))).length), (20, .sl (tblRows TS) false), (21, .int .i64 (tblRows TS).length), (22, .int .i64 (0 : Nat))], [(0, [diceB t (q1)]), (4, [.rows 4 [[.int .i64 0, .nils, .nils, .nils]] none]), (5, [.rows 4 [[.int .i64 p.start, .sl (stpRows p.steps) false, .osl 93 0 0 (fltRows (([] : List Flt))).length (fltRows (([] : List Flt))).length, .osl 94 0 0 (rfRows (([] : List Rf))).length (rfRows (([] : List Rf))).length]] none]), (93, [.rows 4 (fltRows (([] : List Flt))) (some [])]), (94, [.rows 2 (rfRows (([] : List Rf))) (some [])]), (92, [.rows 2 (rfRows (RS.take (atN TS 0))) (some [])])], [0, 4, 5, 93, 94, 92]⟩)
    (LeG.mq (.ci 0 (.ci 4 (.ci 5 (.ci 93 (.ci 94 (.ci 92 .nil))))))) ?_
  refine W.loopG (fun m st => ∃ k : Nat, k ≤ TS.length ∧ m = TS.length - k ∧ st = ⟨[(0, .bp 0 0), (4, .bp 4 0), (5, .bp 5 0), (6, .osl 92 0 0 (rfRows (RS.take (atN TS k))).length (rfRows (RS.take (atN TS k))).length), (20, .sl (tblRows TS) false), (21, .int .i64 (tblRows TS).length), (22, .int .i64 k)], [(0, [diceB t (q1)]), (4, [.rows 4 [[.int .i64 0, .nils, .nils, .nils]] none]), (5, [.rows 4 [[.int .i64 p.start, .sl (stpRows p.steps) false, .osl 93 0 0 (fltRows (([] : List Flt))).length (fltRows (([] : List Flt))).length, .osl 94 0 0 (rfRows (([] : List Rf))).length (rfRows (([] : List Rf))).length]] none]), (93, [.rows 4 (fltRows (([] : List Flt))) (some [])]), (94, [.rows 2 (rfRows (([] : List Rf))) (some [])]), (92, [.rows 2 (rfRows (RS.take (atN TS k))) (some [])])], [0, 4, 5, 93, 94, 92]⟩)
    TS.length _ ⟨0, by omega, by omega, rfl⟩ ⟨[(0, 0), (4, 4), (5, 5), (93, 93), (94, 94), (92, 92)], [], [], LeG.mq (.ci 0 (.ci 4 (.ci 5 (.ci 93 (.ci 94 (.ci 92 .nil))))))⟩ ?_
  rintro m st ⟨k, hk, rfl, rfl⟩
  (refine gGo ?_; intros)
  refine boolRes_split (fun hb => ?_) (fun hb => ?_) <;> conv => whnf
  · have hkl : k < TS.length := by omega
    have hg := tblRows_get hkl
    have htk : TS[k]? = some TS[k] := List.getElem?_eq_getElem hkl
    have hsu := atN_succ htk
    have hle := atN_le TS (k + 1)
    have hrk := fun (q : Nat) (hq : q < (TS[k]'hkl).cols.length) => hrg k q (TS[k]'hkl) htk hq
    generalize TS[k] = tk at *
    have hcl := colRows_len tk.cols
    (refine gGo ?_; intros)
    refine rowAt_of (r := tk.row) (by simpa using hg) ?_
    conv => whnf
    (refine gGo ?_; intros)
    refine W.leG (mp := [(0, 0), (4, 4), (5, 5), (93, 93), (94, 94), (92, 92), (8, 8)]) (bo := []) (st' := ⟨[(0, .bp 0 0), (4, .bp 4 0), (5, .bp 5 0), (6, .osl 92 0 0 (rfRows (RS.take (atN TS k + 0))).length (rfRows (RS.take (atN TS k + 0))).length), (20, .sl (tblRows TS) false), (21, .int .i64 (tblRows TS).length), (8, .bp 8 0), (22, .int .i64 k), (27, .sl (colRows tk.cols) false), (28, .int .i64 (colRows tk.cols).length), (29, .int .i64 (0 : Nat))], [(0, [diceB t (q1)]), (4, [.rows 4 [[.int .i64 0, .nils, .nils, .nils]] none]), (5, [.rows 4 [[.int .i64 p.start, .sl (stpRows p.steps) false, .osl 93 0 0 (fltRows (([] : List Flt))).length (fltRows (([] : List Flt))).length, .osl 94 0 0 (rfRows (([] : List Rf))).length (rfRows (([] : List Rf))).length]] none]), (93, [.rows 4 (fltRows (([] : List Flt))) (some [])]), (94, [.rows 2 (rfRows (([] : List Rf))) (some [])]), (92, [.rows 2 (rfRows (RS.take (atN TS k + 0))) (some [])]), (8, [.rows 3 [tk.row] none])], [0, 4, 5, 93, 94, 92, 8]⟩)
      (LeG.mq (.ci 0 (.ci 4 (.ci 5 (.ci 93 (.ci 94 (.ci 92 (.ci 8 .nil)))))))) ?_
    refine W.loopG (fun m st => ∃ q : Nat, q ≤ tk.cols.length ∧ m = tk.cols.length - q ∧ st = ⟨[(0, .bp 0 0), (4, .bp 4 0), (5, .bp 5 0), (6, .osl 92 0 0 (rfRows (RS.take (atN TS k + q))).length (rfRows (RS.take (atN TS k + q))).length), (20, .sl (tblRows TS) false), (21, .int .i64 (tblRows TS).length), (8, .bp 8 0), (22, .int .i64 k), (27, .sl (colRows tk.cols) false), (28, .int .i64 (colRows tk.cols).length), (29, .int .i64 q)], [(0, [diceB t (q1)]), (4, [.rows 4 [[.int .i64 0, .nils, .nils, .nils]] none]), (5, [.rows 4 [[.int .i64 p.start, .sl (stpRows p.steps) false, .osl 93 0 0 (fltRows (([] : List Flt))).length (fltRows (([] : List Flt))).length, .osl 94 0 0 (rfRows (([] : List Rf))).length (rfRows (([] : List Rf))).length]] none]), (93, [.rows 4 (fltRows (([] : List Flt))) (some [])]), (94, [.rows 2 (rfRows (([] : List Rf))) (some [])]), (92, [.rows 2 (rfRows (RS.take (atN TS k + q))) (some [])]), (8, [.rows 3 [tk.row] none])], [0, 4, 5, 93, 94, 92, 8]⟩)
      tk.cols.length _ ⟨0, by omega, by omega, rfl⟩ ⟨[(0, 0), (4, 4), (5, 5), (93, 93), (94, 94), (92, 92), (8, 8)], [], [], LeG.mq (.ci 0 (.ci 4 (.ci 5 (.ci 93 (.ci 94 (.ci 92 (.ci 8 .nil)))))))⟩ ?_
    rintro m st ⟨q, hq, rfl, rfl⟩
    have hn := rfRows_len (RS.take (atN TS k + q))
    rw [List.length_take] at hn
    (refine gGo ?_; intros)
    refine boolRes_split (fun hb => ?_) (fun hb => ?_) <;> conv => whnf
    · have hql : q < tk.cols.length := by omega
      have h1 := hrk q hql
      obtain ⟨g1, g2⟩ := List.getElem?_eq_some_iff.1 h1
      have hsn : RS.take (atN TS k + (q + 1)) = RS.take (atN TS k + q) ++ [⟨tk.id, (q : Nat)⟩] := by
        rw [show atN TS k + (q + 1) = (atN TS k + q) + 1 by omega, List.take_succ_eq_append_getElem g1, g2]
      generalize RS.take (atN TS k + q) = A0 at *
      (refine gGo ?_; intros)
      refine ⟨⟨rowsSz_cons rfl rowsSz_nil, rfl⟩, fitsN (n := (rfRows A0).length + 1) (b := 16) (by omega) (by omega), .inl ⟨rfl, rfl, ?_⟩⟩
      conv => whnf
      (refine gGo ?_; intros)
      refine ⟨_, _, ?_, ⟨q + 1, by omega, rfl, rfl⟩, [(0, 0), (4, 4), (5, 5), (93, 93), (94, 94), (92, 92), (8, 8)], [], [], LeG.mk' rfl rfl rfl (by rw [hsn, rfRows_snoc, List.length_append]; exact (by repeat' (first | exact trivial | exact ⟨_, .refl _, rfl⟩ | apply And.intro))) (.ci 0 (.ci 4 (.ci 5 (.ci 93 (.ci 94 (.cons 92 rfl rfl (.refl _) (by rw [hsn, rfRows_snoc]; rfl) (.ci 8 .nil))))))) rfl rfl (by rw [hK]; rfl)⟩
      omega
    · have hqe : q = tk.cols.length := by omega
      rw [hqe, ← hsu]
      (refine gGo ?_; intros)
      refine ⟨_, _, ?_, ⟨k + 1, by omega, rfl, rfl⟩, [(0, 0), (4, 4), (5, 5), (93, 93), (94, 94), (92, 92)], [], [], LeG.mq (.ci 0 (.ci 4 (.ci 5 (.ci 93 (.ci 94 (.ci 92 .nil))))))⟩
      omega
  · have hke : k = TS.length := by omega
    rw [hke, ← hrefl, List.take_length]
    refine gA ?_
    refine gD rfl ?_
    refine gG ?_
    conv => whnf
    have hrl := rfRows_len RS
    refine W.leG (mp := [(0, 0), (4, 4), (5, 5), (93, 93), (94, 94), (92, 92)]) (bo := []) (st' := ⟨[(0, .bp 0 0), (4, .bp 4 0), (5, .bp 5 0), (6, .osl 92 0 0 (rfRows (RS)).length (rfRows (RS)).length)], [(0, [diceB t (q1)]), (4, [.rows 4 [[.int .i64 0, .nils, .nils, .nils]] none]), (5, [.rows 4 [[.int .i64 p.start, .sl (stpRows p.steps) false, .osl 93 0 0 (fltRows (([] : List Flt))).length (fltRows (([] : List Flt))).length, .osl 94 0 0 (rfRows (([] : List Rf))).length (rfRows (([] : List Rf))).length]] none]), (93, [.rows 4 (fltRows (([] : List Flt))) (some [])]), (94, [.rows 2 (rfRows (([] : List Rf))) (some [])]), (92, [.rows 2 (rfRows (RS)) (some [])])], [0, 4, 5, 93, 94, 92]⟩)
      (LeG.mq (.ci 0 (.ci 4 (.ci 5 (.ci 93 (.ci 94 (.ci 92 .nil))))))) ?_
    (refine gGo ?_; intros)
    (refine gCA [(0, 0)] [] [] (n1) ?_; conv => whnf)
    (refine gGo ?_; intros)
    refine W.leG (mp := [(0, 0), (4, 4), (5, 5), (93, 93), (94, 94), (92, 92)]) (bo := []) (st' := ⟨[(0, .bp 0 0), (4, .bp 4 0), (5, .bp 5 0), (6, .osl 92 0 0 (rfRows (RS)).length (rfRows (RS)).length), (10, .int .i64 (K : Nat))], [(0, [diceB t (q3)]), (4, [.rows 4 [[.int .i64 0, .nils, .nils, .nils]] none]), (5, [.rows 4 [[.int .i64 p.start, .sl (stpRows p.steps) false, .osl 93 0 0 (fltRows (([] : List Flt))).length (fltRows (([] : List Flt))).length, .osl 94 0 0 (rfRows (([] : List Rf))).length (rfRows (([] : List Rf))).length]] none]), (93, [.rows 4 (fltRows (([] : List Flt))) (some [])]), (94, [.rows 2 (rfRows (([] : List Rf))) (some [])]), (92, [.rows 2 (rfRows (RS)) (some [])])], [0, 4, 5, 93, 94, 92]⟩)
      (LeG.mq (.ci 0 (.ci 4 (.ci 5 (.ci 93 (.ci 94 (.ci 92 .nil))))))) ?_
    refine W.loopG (fun n st => ∃ (k : Nat) (s : List Flt × Nat), s.2 ≤ t.length ∧ s.1.length + k ≤ K ∧ fltGo t RS K ([], q3) = fltGo t RS k s ∧ n = k ∧ st = ⟨[(0, .bp 0 0), (4, .bp 4 0), (5, .bp 5 0), (6, .osl 92 0 0 (rfRows (RS)).length (rfRows (RS)).length), (10, .int .i64 (k : Nat))], [(0, [diceB t (s.2)]), (4, [.rows 4 [[.int .i64 0, .nils, .nils, .nils]] none]), (5, [.rows 4 [[.int .i64 p.start, .sl (stpRows p.steps) false, .osl 93 0 0 (fltRows (s.1)).length (fltRows (s.1)).length, .osl 94 0 0 (rfRows (([] : List Rf))).length (rfRows (([] : List Rf))).length]] none]), (93, [.rows 4 (fltRows (s.1)) (some [])]), (94, [.rows 2 (rfRows (([] : List Rf))) (some [])]), (92, [.rows 2 (rfRows (RS)) (some [])])], [0, 4, 5, 93, 94, 92]⟩)
      K _ ⟨K, ([], q3), hq3, by show 0 + K ≤ K; omega, rfl, rfl, rfl⟩ ⟨[(0, 0), (4, 4), (5, 5), (93, 93), (94, 94), (92, 92)], [], [], LeG.mq (.ci 0 (.ci 4 (.ci 5 (.ci 93 (.ci 94 (.ci 92 .nil))))))⟩ ?_
    rintro n st ⟨k, ⟨S, sq⟩, hsq, hsl, hgo, rfl, rfl⟩
    simp only at hsq hsl
    (refine gGo ?_; intros)
    refine boolRes_split (fun hb => ?_) (fun hb => ?_) <;> conv => whnf
    · obtain ⟨m, rfl⟩ : ∃ m, n = m + 1 := ⟨n - 1, by omega⟩
      have n2 := next_spec t sq RS.length (by omega) hsq
      have v2 := nextV_range t sq (n := (RS.length : Int)) (by omega)
      have hsq2 := nextP_le hsq
      have n3 := next_spec t (nextP t sq) 4 (by decide) hsq2
      have v3 := nextV_range t (nextP t sq) (n := 4) (by decide)
      have hsq3 := nextP_le hsq2
      obtain ⟨_, spW⟩ := wordF_spec (ws := sWords) (by decide) (by decide) hsq3
      have hsq4 := nextP_le hsq3
      obtain ⟨i, hi⟩ := Int.eq_ofNat_of_zero_le v2.1
      have hgo2 : fltGo t RS K ([], q3) = fltGo t RS m (fltStep t RS (S, sq)) := hgo
      have hst : fltStep t RS (S, sq) = if 1 + nextV t (nextP t sq) 4 ≤ 2 then (S ++ [⟨RS.getD (nextV t sq RS.length).toNat ⟨0, 0⟩, 1 + nextV t (nextP t sq) 4, wordF sWords t (nextP t (nextP t sq))⟩], nextP t (nextP t (nextP t sq))) else (S ++ [⟨RS.getD (nextV t sq RS.length).toNat ⟨0, 0⟩, 1 + nextV t (nextP t sq) 4, []⟩], nextP t (nextP t sq)) := rfl
      rw [hi] at v2 n2 hst
      have hil : i < RS.length := by omega
      have hgi := rfRows_get hil
      rw [Int.toNat_natCast, List.getD_eq_getElem?_getD, List.getElem?_eq_getElem hil] at hst
      simp only [Option.getD_some] at hst
      generalize RS[i] = r at *
      generalize wordF sWords t (nextP t (nextP t sq)) = wd at *
      generalize nextV t (nextP t sq) 4 = kd at *
      generalize nextP t (nextP t (nextP t sq)) = s3 at *
      generalize nextP t (nextP t sq) = s2 at *
      generalize nextP t sq = s1 at *
      rw [← hrl] at n2
      have hSl := fltRows_len S
      (refine gGo ?_; intros)
      (refine gCA [(0, 0)] [] [] (n2) ?_; conv => whnf)
      (refine gGo ?_; intros)
      refine rowAt_of (by simpa using hgi) ?_
      conv => whnf
      (refine gGo ?_; intros)
      by_cases hkd : 1 + kd ≤ 2
      · rw [if_pos hkd] at hst
        (refine gGo ?_; intros)
        (refine gCA [(0, 0)] [] [] (n3) ?_; conv => whnf)
        (refine gGo ?_; intros)
        (refine gCA [(0, 0)] [] [] (spW) ?_; conv => whnf)
        (refine gGo ?_; intros)
        refine ⟨⟨rowsSz_cons rfl rowsSz_nil, rfl⟩, fitsN (n := (fltRows S).length + 1) (b := 40) (by omega) (by omega), .inl ⟨rfl, rfl, ?_⟩⟩
        conv => whnf
        (refine gGo ?_; intros)
        refine ⟨_, _, ?_, ⟨m, (S ++ [(Flt.mk r (1 + kd) wd)], s3), hsq4, by simp; omega, by rw [hgo2, hst], rfl, rfl⟩, [(0, 0), (4, 4), (5, 5), (93, 93), (94, 94), (92, 92)], [], [], LeG.mk' rfl rfl rfl ⟨⟨_, .refl _, rfl⟩, ⟨_, .refl _, rfl⟩, ⟨_, .refl _, rfl⟩, ⟨_, .refl _, rfl⟩, ⟨_, .refl _, (by show V.int .i64 (((m + 1 : Nat) : Int) - 1) = _; congr 1; omega)⟩, trivial⟩ (.ci 0 (.ci 4 (.cons 5 rfl rfl (.refl _) (by rw [fltRows_snoc, List.length_append]; rfl) (.cons 93 rfl rfl (.refl _) (by rw [fltRows_snoc]; rfl) (.ci 94 (.ci 92 .nil)))))) rfl rfl (by rw [hK]; rfl)⟩
        omega
      · rw [if_neg hkd] at hst
        (refine gGo ?_; intros)
        (refine gCA [(0, 0)] [] [] (n3) ?_; conv => whnf)
        (refine gGo ?_; intros)
        refine ⟨⟨rowsSz_cons rfl rowsSz_nil, rfl⟩, fitsN (n := (fltRows S).length + 1) (b := 40) (by omega) (by omega), .inl ⟨rfl, rfl, ?_⟩⟩
        conv => whnf
        (refine gGo ?_; intros)
        refine ⟨_, _, ?_, ⟨m, (S ++ [(Flt.mk r (1 + kd) [])], s2), hsq3, by simp; omega, by rw [hgo2, hst], rfl, rfl⟩, [(0, 0), (4, 4), (5, 5), (93, 93), (94, 94), (92, 92)], [], [], LeG.mk' rfl rfl rfl ⟨⟨_, .refl _, rfl⟩, ⟨_, .refl _, rfl⟩, ⟨_, .refl _, rfl⟩, ⟨_, .refl _, rfl⟩, ⟨_, .refl _, (by show V.int .i64 (((m + 1 : Nat) : Int) - 1) = _; congr 1; omega)⟩, trivial⟩ (.ci 0 (.ci 4 (.cons 5 rfl rfl (.refl _) (by rw [fltRows_snoc, List.length_append]; rfl) (.cons 93 rfl rfl (.refl _) (by rw [fltRows_snoc]; rfl) (.ci 94 (.ci 92 .nil)))))) rfl rfl (by rw [hK]; rfl)⟩
        omega
    · have hk0 : n = 0 := by omega
      subst hk0
      have hgo : fltGo t RS K ([], q3) = (S, sq) := hgo
      rw [hgo]
      have n4 := next_spec t sq 4 (by decide) hsq
      have v4 := nextV_range t sq (n := 4) (by decide)
      obtain ⟨K4, hK4⟩ := Int.eq_ofNat_of_zero_le v4.1
      have hq4 := nextP_le hsq
      simp only
      rw [hK4] at n4 v4 ⊢
      rw [Int.toNat_natCast]
      generalize nextP t sq = q4 at *
      have hSl := fltRows_len S
      (refine gGo ?_; intros)
      (refine gCA [(0, 0)] [] [] (n4) ?_; conv => whnf)
      (refine gGo ?_; intros)
      refine W.leG (mp := [(0, 0), (4, 4), (5, 5), (93, 93), (94, 94), (92, 92)]) (bo := []) (st' := ⟨[(0, .bp 0 0), (4, .bp 4 0), (5, .bp 5 0), (6, .osl 92 0 0 (rfRows (RS)).length (rfRows (RS)).length), (12, .int .i64 (K4 : Nat))], [(0, [diceB t (q4)]), (4, [.rows 4 [[.int .i64 0, .nils, .nils, .nils]] none]), (5, [.rows 4 [[.int .i64 p.start, .sl (stpRows p.steps) false, .osl 93 0 0 (fltRows (S)).length (fltRows (S)).length, .osl 94 0 0 (rfRows (([] : List Rf))).length (rfRows (([] : List Rf))).length]] none]), (93, [.rows 4 (fltRows (S)) (some [])]), (94, [.rows 2 (rfRows (([] : List Rf))) (some [])]), (92, [.rows 2 (rfRows (RS)) (some [])])], [0, 4, 5, 93, 94, 92]⟩)
        (LeG.mq (.ci 0 (.ci 4 (.ci 5 (.ci 93 (.ci 94 (.ci 92 .nil))))))) ?_
      refine W.loopG (fun n st => ∃ (k : Nat) (s : List Rf × Nat), s.2 ≤ t.length ∧ s.1.length + k ≤ K4 ∧ rfGo t RS K4 ([], q4) = rfGo t RS k s ∧ n = k ∧ st = ⟨[(0, .bp 0 0), (4, .bp 4 0), (5, .bp 5 0), (6, .osl 92 0 0 (rfRows (RS)).length (rfRows (RS)).length), (12, .int .i64 (k : Nat))], [(0, [diceB t (s.2)]), (4, [.rows 4 [[.int .i64 0, .nils, .nils, .nils]] none]), (5, [.rows 4 [[.int .i64 p.start, .sl (stpRows p.steps) false, .osl 93 0 0 (fltRows (S)).length (fltRows (S)).length, .osl 94 0 0 (rfRows (s.1)).length (rfRows (s.1)).length]] none]), (93, [.rows 4 (fltRows (S)) (some [])]), (94, [.rows 2 (rfRows (s.1)) (some [])]), (92, [.rows 2 (rfRows (RS)) (some [])])], [0, 4, 5, 93, 94, 92]⟩)
        K4 _ ⟨K4, ([], q4), hq4, by show 0 + K4 ≤ K4; omega, rfl, rfl, rfl⟩ ⟨[(0, 0), (4, 4), (5, 5), (93, 93), (94, 94), (92, 92)], [], [], LeG.mq (.ci 0 (.ci 4 (.ci 5 (.ci 93 (.ci 94 (.ci 92 .nil))))))⟩ ?_
      rintro n st ⟨k, ⟨C, cq⟩, hcq, hclen, hgo4, rfl, rfl⟩
      simp only at hcq hclen
      have hCl := rfRows_len C
      (refine gGo ?_; intros)
      refine boolRes_split (fun hb => ?_) (fun hb => ?_) <;> conv => whnf
      · obtain ⟨m, rfl⟩ : ∃ m, n = m + 1 := ⟨n - 1, by omega⟩
        have n2 := next_spec t cq RS.length (by omega) hcq
        have v2 := nextV_range t cq (n := (RS.length : Int)) (by omega)
        have hcq2 := nextP_le hcq
        obtain ⟨i, hi⟩ := Int.eq_ofNat_of_zero_le v2.1
        have hgo2 : rfGo t RS K4 ([], q4) = rfGo t RS m (rfStep t RS (C, cq)) := hgo4
        have hst : rfStep t RS (C, cq) = (C ++ [RS.getD (nextV t cq RS.length).toNat ⟨0, 0⟩], nextP t cq) := rfl
        rw [hi] at v2 n2 hst
        have hil : i < RS.length := by omega
        have hgi := rfRows_get hil
        rw [Int.toNat_natCast, List.getD_eq_getElem?_getD, List.getElem?_eq_getElem hil] at hst
        simp only [Option.getD_some] at hst
        generalize RS[i] = r at *
        generalize nextP t cq = c1 at *
        rw [← hrl] at n2
        (refine gGo ?_; intros)
        (refine gCA [(0, 0)] [] [] (n2) ?_; conv => whnf)
        (refine gGo ?_; intros)
        refine rowAt_of (by simpa using hgi) ?_
        conv => whnf
        (refine gGo ?_; intros)
        refine ⟨⟨rowsSz_cons rfl rowsSz_nil, rfl⟩, fitsN (n := (rfRows C).length + 1) (b := 16) (by omega) (by omega), .inl ⟨rfl, rfl, ?_⟩⟩
        conv => whnf
        (refine gGo ?_; intros)
        refine ⟨_, _, ?_, ⟨m, (C ++ [r], c1), hcq2, by simp; omega, by rw [hgo2, hst], rfl, rfl⟩, [(0, 0), (4, 4), (5, 5), (93, 93), (94, 94), (92, 92)], [], [], LeG.mk' rfl rfl rfl ⟨⟨_, .refl _, rfl⟩, ⟨_, .refl _, rfl⟩, ⟨_, .refl _, rfl⟩, ⟨_, .refl _, rfl⟩, ⟨_, .refl _, (by show V.int .i64 (((m + 1 : Nat) : Int) - 1) = _; congr 1; omega)⟩, trivial⟩ (.ci 0 (.ci 4 (.cons 5 rfl rfl (.refl _) (by rw [rfRows_snoc, List.length_append]; rfl) (.ci 93 (.cons 94 rfl rfl (.refl _) (by rw [rfRows_snoc]; rfl) (.ci 92 .nil)))))) rfl rfl (by rw [hK]; rfl)⟩
        omega
      · have hk0 : n = 0 := by omega
        subst hk0
        have hgo4 : rfGo t RS K4 ([], q4) = (C, cq) := hgo4
        rw [hgo4]
        (refine gGo ?_; intros)
        (refine gM ?_; conv => whnf)
        exact retH rfl (.refl _) rfl rfl rfl ⟨rfl, rfl, rfl, rfl, rfl, rfl, trivial⟩
end Go.Sx.Sp
namespace Go.Sx.Sp
open Go Go.Sx Go.Proofs
attribute [local irreducible] GoodW famL
theorem tabOf_J {L : List Table} (h : ∀ k (hk : k < L.length), TabJ k L[k]) (n : Int) : (tabOf L n).cols.length ≤ 2 := by
  unfold tabOf
  cases hf : findT L n with
  | none => exact Nat.zero_le _
  | some t =>
    obtain ⟨hm, _⟩ := findT_mem hf
    obtain ⟨i, hi, rfl⟩ := List.getElem_of_mem hm
    exact (h i hi).few.2
theorem refs_J {L : List Table} (h : ∀ k (hk : k < L.length), TabJ k L[k]) (hl0 : 0 < L.length) (t : List Int) (q : Nat) : 1 ≤ (refsOf (tabsM L (pathF t L q).1)).length ∧ (refsOf (tabsM L (pathF t L q).1)).length ≤ 10 := by
  have hps := pathF_steps t L q
  have hst : (pathF t L q).1.start = (L.getD (nextV t q L.length).toNat Table.zero).id := rfl
  have hr := nextV_range t q (n := (L.length : Int)) (by omega)
  generalize (pathF t L q).1 = p at *
  have hml := tabsM_len L p
  have hle : ∀ k, k ≤ (tabsM L p).length → atN (tabsM L p) k ≤ 2 * k := fun k => by
    induction k with
    | zero => intro _; simp [atN]
    | succ k ih =>
      intro hk
      have h3 := tabsM_get L p (i := k) (by omega)
      rw [atN_succ h3, tabN_bef L p (by omega)]
      have := ih (by omega)
      have := tabOf_J h ((tabsI p).getD k 0)
      omega
  rw [refsOf_len]
  have h9 := hle _ (Nat.le_refl _)
  refine ⟨?_, by omega⟩
  have h1 : atN (tabsM L p) 1 = (tabN L p 0).cols.length := by
    have := atN_succ (ts := tabsM L p) (i := 0) (tabsM_get L p (Nat.zero_le _))
    rw [this]; simp [atN]
  have h2 := atN_mono (tabsM L p) (show 1 ≤ (tabsM L p).length by omega)
  have hil : (nextV t q L.length).toNat < L.length := by omega
  have h3 : 1 ≤ (tabN L p 0).cols.length := by
    rw [tabN_zero, hst, List.getD_eq_getElem?_getD, List.getElem?_eq_getElem hil]
    simp only [Option.getD_some]
    unfold tabOf
    cases hf : findT L (L[(nextV t q L.length).toNat]).id with
    | none =>
      unfold findT at hf
      have := List.find?_eq_none.1 hf _ (List.getElem_mem hil)
      simp at this
    | some t =>
      obtain ⟨hm, _⟩ := findT_mem hf
      obtain ⟨i, hi, rfl⟩ := List.getElem_of_mem hm
      exact (h i hi).few.1
  omega
end Go.Sx.Sp
namespace Go.Sx.Sp
open Go Go.Sx Go.Proofs
attribute [local irreducible] GoodW famL
theorem someF_len (t : List Int) (l : List Table) (q : Nat) (hq : q ≤ t.length) : (someF t l q).1.fs.length ≤ 2 ∧ (someF t l q).1.cs.length ≤ 3 := by
  have hq2 := pathF_le (t := t) (l := l) hq
  have hq3 := nextP_le hq2
  have v1 := nextV_range t (pathF t l q).2 (n := 3) (by decide)
  have h1 := fltGo_q (t := t) (all := refsOf (tabsM l (pathF t l q).1)) (nextV t (pathF t l q).2 3).toNat (s := ([], nextP t (pathF t l q).2)) hq3
  have hf : (someF t l q).1.fs = (fltGo t (refsOf (tabsM l (pathF t l q).1)) (nextV t (pathF t l q).2 3).toNat ([], nextP t (pathF t l q).2)).1 := rfl
  have v2 := nextV_range t (fltGo t (refsOf (tabsM l (pathF t l q).1)) (nextV t (pathF t l q).2 3).toNat ([], nextP t (pathF t l q).2)).2 (n := 4) (by decide)
  have h2 := rfGo_q (t := t) (all := refsOf (tabsM l (pathF t l q).1)) (nextV t (fltGo t (refsOf (tabsM l (pathF t l q).1)) (nextV t (pathF t l q).2 3).toNat ([], nextP t (pathF t l q).2)).2 4).toNat (s := ([], nextP t (fltGo t (refsOf (tabsM l (pathF t l q).1)) (nextV t (pathF t l q).2 3).toNat ([], nextP t (pathF t l q).2)).2)) (nextP_le h1.1)
  have hc : (someF t l q).1.cs = (rfGo t (refsOf (tabsM l (pathF t l q).1)) (nextV t (fltGo t (refsOf (tabsM l (pathF t l q).1)) (nextV t (pathF t l q).2 3).toNat ([], nextP t (pathF t l q).2)).2 4).toNat ([], nextP t (fltGo t (refsOf (tabsM l (pathF t l q).1)) (nextV t (pathF t l q).2 3).toNat ([], nextP t (pathF t l q).2)).2)).1 := rfl
  rw [hf, hc, h1.2, h2.2]
  simp only [List.length_nil]
  omega
end Go.Sx.Sp
namespace Go.Sx.Sp
open Go Go.Sx Go.Proofs
attribute [local irreducible] GoodW famL
end Go.Sx.Sp
namespace Go.Sx.Sp
open Go Go.Sx Go.Proofs
attribute [local irreducible] GoodW famL
theorem validV_intro {l : List Table} {v : Vw} (h0 : validE l v.path = 0) (h8 : v.fs.length ≤ 8) (h64 : v.cs.length ≤ 64) (hf : ∀ f ∈ v.fs, hasB l v.path f.r = true ∧ properB f = true) (hc : ∀ r ∈ v.cs, hasB l v.path r = true) : validV l v = 0 := by
  unfold validV
  have h1 : v.fs.any (nhF l v.path) = false := by
    rw [List.any_eq_false]
    intro f h
    unfold nhF
    rw [(hf f h).1]; decide
  have h2 : v.cs.any (nhR l v.path) = false := by
    rw [List.any_eq_false]
    intro r h
    unfold nhR
    rw [hc r h]; decide
  have h3 : v.fs.any npB = false := by
    rw [List.any_eq_false]
    intro f h
    unfold npB
    rw [(hf f h).2]; decide
  rw [if_pos h0, if_pos ⟨h8, h64⟩, if_pos ⟨h1, h2⟩, if_pos h3]
def keepV (l : List Table) (p : Pth) (fs : List Flt) : List (List Nat) := (rowsL l p).filter fun row => fs.all fun f => keepsB f (cellV l p f.r row)
theorem keepV_eq (l : List Table) (v : Vw) : keptR l v v.fs.length = keepV l v.path v.fs := by
  rw [keptR_filter l v _ (Nat.le_refl _)]
  unfold keepV
  refine List.filter_congr fun row _ => ?_
  unfold allK
  rw [List.take_length]
theorem evalV_zero {l : List Table} {v : Vw} (h : (evalV l v).2 = 0) : keptE l v = 0 := by
  unfold evalV at h
  by_cases h0 : keptE l v = 0
  · exact h0
  · rw [if_neg h0] at h; exact absurd h h0
theorem evalV_ok {l : List Table} {v : Vw} (h : keptE l v = 0) : evalV l v = (⟨(tabOf l v.path.start).id, (tabOf l v.path.start).name, v.cs.map (shownC l v (keepV l v.path v.fs))⟩, 0) := by
  unfold evalV
  rw [if_pos h]
  unfold shownT
  rw [keepV_eq]
theorem countV_ok {l : List Table} {v : Vw} (h : keptE l v = 0) (hc : v.cs.length ≠ 0) : countV l v = (((keepV l v.path v.fs).length : Int), 0) := by
  unfold countV
  rw [if_pos h, if_neg hc, keepV_eq]
theorem keptE_ext {l : List Table} {v w : Vw} (h : keptE l v = 0) (hp : w.path = v.path) (h8 : w.fs.length ≤ 8) (h64 : w.cs.length ≤ 64) (hf : ∀ f ∈ w.fs, hasB l v.path f.r = true ∧ properB f = true) (hc : ∀ r ∈ w.cs, r ∈ v.cs) : keptE l w = 0 := by
  obtain ⟨h1, h2⟩ := keptE_zero h
  obtain ⟨hv, _, _, _, hcs⟩ := validV_facts h1
  have : validV l w = 0 := validV_intro (by rw [hp]; exact hv) h8 h64 (by rw [hp]; exact hf) (by rw [hp]; exact fun r hr => hcs r (hc r hr))
  unfold keptE
  rw [if_pos this, hp]
  exact h2
theorem keepV_app (l : List Table) (p : Pth) (fs gs : List Flt) : keepV l p (fs ++ gs) = (keepV l p fs).filter fun row => gs.all fun f => keepsB f (cellV l p f.r row) := by
  unfold keepV
  rw [List.filter_filter]
  refine List.filter_congr fun row _ => ?_
  rw [List.all_append, Bool.and_comm]
theorem keepV_twice (l : List Table) (p : Pth) (fs : List Flt) : keepV l p (fs ++ fs) = keepV l p fs := by
  unfold keepV
  refine List.filter_congr fun row _ => ?_
  rw [List.all_append, Bool.and_self]
theorem keepV_none (l : List Table) (p : Pth) (fs : List Flt) (r : Rf) (a b : Str) : keepV l p (fs ++ [⟨r, 3, a⟩, ⟨r, 4, b⟩]) = [] := by
  rw [keepV_app, List.filter_eq_nil_iff]
  intro row _
  simp only [List.all_cons, List.all_nil, Bool.and_true]
  have h3 : keepsB ⟨r, 3, a⟩ (cellV l p r row) = (cellV l p r row).null := by unfold keepsB; simp
  have h4 : keepsB ⟨r, 4, b⟩ (cellV l p r row) = !(cellV l p r row).null := by unfold keepsB; simp
  rw [h3, h4]
  cases (cellV l p r row).null <;> simp
theorem twice_eval {l : List Table} {v : Vw} (h : keptE l v = 0) (hf2 : v.fs.length ≤ 2) (hc3 : v.cs.length ≤ 3) {c0 : Rf} (hc : v.cs[0]? = some c0) :
    evalV l ⟨v.path, v.fs ++ v.fs, v.cs ++ [c0]⟩ = (⟨((evalV l v).1).id, ((evalV l v).1).name, ((evalV l v).1).cols ++ [shownC l v (keepV l v.path v.fs) c0]⟩, 0) ∧ ((evalV l v).1).cols[0]? = some (shownC l v (keepV l v.path v.fs) c0) := by
  obtain ⟨h1, h2⟩ := keptE_zero h
  obtain ⟨hv, _, _, hfs, hcs⟩ := validV_facts h1
  have hm := List.mem_of_getElem? hc
  have hk : keptE l ⟨v.path, v.fs ++ v.fs, v.cs ++ [c0]⟩ = 0 := keptE_ext h rfl (by show (v.fs ++ v.fs).length ≤ 8; rw [List.length_append]; omega) (by show (v.cs ++ [c0]).length ≤ 64; rw [List.length_append, List.length_singleton]; omega)
    (fun f hf => by
      rcases List.mem_append.1 hf with hf | hf <;> exact hfs f hf)
    (fun r hr => by
      rcases List.mem_append.1 hr with hr | hr
      · exact hr
      · rw [List.mem_singleton.1 hr]; exact hm)
  rw [evalV_ok hk, evalV_ok h]
  simp only
  rw [keepV_twice]
  refine ⟨?_, by rw [List.getElem?_map, hc]; rfl⟩
  rw [List.map_append]
  rfl
theorem none_count {l : List Table} {v : Vw} (h : keptE l v = 0) (hf2 : v.fs.length ≤ 2) (hc3 : v.cs.length ≤ 3) {c0 : Rf} (hc : v.cs[0]? = some c0) : countV l ⟨v.path, v.fs ++ [⟨c0, 3, []⟩, ⟨c0, 4, []⟩], v.cs⟩ = (0, 0) := by
  obtain ⟨h1, h2⟩ := keptE_zero h
  obtain ⟨hv, _, _, hfs, hcs⟩ := validV_facts h1
  have hm := List.mem_of_getElem? hc
  have hlt := (List.getElem?_eq_some_iff.1 hc).1
  have hk : keptE l ⟨v.path, v.fs ++ [⟨c0, 3, []⟩, ⟨c0, 4, []⟩], v.cs⟩ = 0 := keptE_ext h rfl (by show (v.fs ++ _).length ≤ 8; rw [List.length_append]; simp; omega) (by show v.cs.length ≤ 64; omega)
    (fun f hf => by
      rcases List.mem_append.1 hf with hf | hf
      · exact hfs f hf
      · rcases List.mem_cons.1 hf with rfl | hf
        · exact ⟨hcs _ hm, rfl⟩
        · rw [List.mem_singleton.1 hf]; exact ⟨hcs _ hm, rfl⟩)
    (fun r hr => hr)
  rw [countV_ok hk (by show v.cs.length ≠ 0; omega), keepV_none]
  rfl
end Go.Sx.Sp
namespace Go.Sx.Sp
open Go Go.Sx Go.Proofs
attribute [local irreducible] GoodW famL
theorem fltRows_sz (l : List Flt) : rowsSz (fltRows l) 4 := by
  unfold rowsSz
  intro r hr
  obtain ⟨s, _, rfl⟩ := List.mem_map.1 hr
  rfl
theorem flt_pure (l : List Flt) : pureB (fltRows l) = true := by
  unfold pureB fltRows
  rw [List.all_eq_true]
  intro r hr
  obtain ⟨c, _, rfl⟩ := List.mem_map.1 hr
  rfl
theorem rf_pure (l : List Rf) : pureB (rfRows l) = true := by
  unfold pureB rfRows
  rw [List.all_eq_true]
  intro r hr
  obtain ⟨c, _, rfl⟩ := List.mem_map.1 hr
  rfl
set_option maxHeartbeats 16000000 in
theorem twice_law (t : List Int) : Spec Tryz.prog 6 [.sl (intRows .i64 t) false] [] (.bool true) [] := by
  have hl := intRows_len .i64 t
  have spL := light_spec t
  have spA := awake34_spec
  by_cases hll : t.length ≤ 500
  · rw [decide_eq_true hll] at spL
    obtain ⟨⟨j1, j2⟩, j3, j4⟩ := joined_ok (l := t) (most := 3) (p := 0) (by omega) (Nat.zero_le _)
    have spJ := joined_spec t 3 0 (by omega) (Nat.zero_le _)
    generalize (joinedF t 3 0).1 = L at *
    generalize (joinedF t 3 0).2 = q at *
    have j2 : L.length ≤ 3 := j2
    have hlist := listB_J j3 (by omega)
    have hrj := refs_J j3 (by omega) t q
    have spS := some_own t L q hlist (by omega) (by omega) j4 hrj.1 (by omega)
    have hlen := someF_len t L q j4
    generalize (someF t L q).2 = q2 at *
    generalize hv0 : (someF t L q).1 = v0 at *
    obtain ⟨p0, F0, C0⟩ := v0
    simp only at hlen spS
    clear hv0 hrj
    have hFl := fltRows_len F0
    have hCl := rfRows_len C0
    have spE := evalV_spec L ⟨p0, F0, C0⟩
    rw [show Vw.row ⟨p0, F0, C0⟩ = [.int .i64 p0.start, .sl (stpRows p0.steps) false, .sl (fltRows F0) false, .sl (rfRows C0) false] from rfl] at spE
    refine gEn env Tryz.func6 fun Γ hN hK hML => ?_
    (refine gGo ?_; intros)
    (refine gPC (spL) ?_; conv => whnf)
    (refine gGo ?_; intros)
    (refine gCA [] [(5, 70)] [] (roll_spec t) ?_; conv => whnf)
    (refine gGo ?_; intros)
    (refine gCA [(0, 70)] [] [] (spJ) ?_; conv => whnf)
    (refine gGo ?_; intros)
    (refine gCA [(0, 70)] [(93, 93), (94, 94)] [] (spS) ?_; conv => whnf)
    (refine gGs ?_; intros)
    refine W.leG (mp := [(5, 5)]) (bo := [93, 94]) (st' := ⟨[(4, .sl (tblRows L) false), (5, .bp 5 0)], [(5, [.rows 4 [[.int .i64 p0.start, .sl (stpRows p0.steps) false, .sl (fltRows F0) false, .sl (rfRows C0) false]] none])], [5]⟩)
      (LeG.mq (.cons 5 (b1 := .rows 4 [[.int .i64 p0.start, .sl (stpRows p0.steps) false, .sl (fltRows F0) false, .sl (rfRows C0) false]] none) rfl rfl (.rows _ _ _ (by repeat' (first | exact trivial | exact ⟨Lent.refl _, rfl⟩ | exact ⟨Lent.norm _, rfl⟩ | exact ⟨Lent.whole rfl rfl (by first | rfl | exact List.length_append.symm | exact hlenR | simp) rfl (by first | exact .inl rfl | exact .inr rfl), rfl⟩ | apply And.intro))) rfl .nil)) ?_
    by_cases hc0 : C0.length = 0
    · (refine gGo ?_; intros)
      (refine gPC (spA) ?_; conv => whnf)
      (refine gGr ?_; intros)
      exact ret0 rfl rfl rfl
    by_cases he : (evalV L ⟨p0, F0, C0⟩).2 = 0
    · have hk := evalV_zero he
      rw [he] at spE
      obtain ⟨c0, hc⟩ : ∃ c0, C0[0]? = some c0 := ⟨C0[0], List.getElem?_eq_getElem (by omega)⟩
      have hcr : (rfRows C0)[0]? = some c0.row := by unfold rfRows; rw [List.getElem?_map, hc]; rfl
      obtain ⟨ht1, ht2⟩ := twice_eval hk hlen.1 hlen.2 hc
      have hn := none_count hk hlen.1 hlen.2 hc
      simp only at ht1 ht2 hn
      have hTl : ((evalV L ⟨p0, F0, C0⟩).1).cols.length ≤ 3 := by rw [evalV_ok hk]; show (List.map _ C0).length ≤ 3; rw [List.length_map]; exact hlen.2
      have hsz1 := fltRows_sz F0
      have hsz2 := rfRows_sz C0
      generalize (evalV L ⟨p0, F0, C0⟩).1 = TW at *
      generalize shownC L ⟨p0, F0, C0⟩ (keepV L p0 F0) c0 = cc at *
      (refine gGo ?_; intros)
      (refine gPC (spE) ?_; conv => whnf)
      (refine gGo ?_; intros)
      have hdf : List.drop (Int.toNat 0) (List.take (((fltRows F0).length : Nat) : Int).toNat (fltRows F0)) = fltRows F0 := by rw [Int.toNat_natCast, List.take_length]; rfl
      have hdc : List.drop (Int.toNat 0) (List.take (((rfRows C0).length : Nat) : Int).toNat (rfRows C0)) = rfRows C0 := by rw [Int.toNat_natCast, List.take_length]; rfl
      have hpf : pureB (fltRows F0 ++ fltRows F0) = true := by rw [← show fltRows (F0 ++ F0) = fltRows F0 ++ fltRows F0 by simp [fltRows]]; exact flt_pure _
      have hpc : pureB (rfRows C0 ++ [c0.row]) = true := by rw [← rfRows_snoc]; exact rf_pure _
      have hpn : pureB (fltRows F0 ++ fltRows [⟨c0, 3, []⟩, ⟨c0, 4, []⟩]) = true := by rw [← show fltRows (F0 ++ [⟨c0, 3, []⟩, ⟨c0, 4, []⟩]) = fltRows F0 ++ fltRows [⟨c0, 3, []⟩, ⟨c0, 4, []⟩] by simp [fltRows]]; exact flt_pure _
      rw [hdf]
      refine ⟨⟨hsz1, hsz1, fun h => h⟩, fitsN (n := (fltRows F0).length + (fltRows F0).length) (b := 40) (by omega) (by omega), ?_⟩
      refine Or.inr ⟨⟨rfl, (by rw [List.length_append]), (by rw [List.length_append]), hpf⟩, ?_⟩
      conv => whnf
      (refine gGo ?_; intros)
      refine rowAt_of (r := c0.row) (by simpa using hcr) ?_
      conv => whnf
      (refine gGo ?_; intros)
      rw [hdc]
      refine ⟨⟨rowsSz_cons rfl rowsSz_nil, hsz2, fun h => by cases h⟩, fitsN (n := (rfRows C0).length + 1) (b := 16) (by omega) (by omega), ?_⟩
      refine Or.inr ⟨⟨rfl, (by rw [List.length_append]), (by rw [List.length_append]), hpc⟩, ?_⟩
      conv => whnf
      (refine gGo ?_; intros)
      refine rowAt_of (r := c0.row) (by simpa using hcr) ?_
      conv => whnf
      (refine gGo ?_; intros)
      refine rowAt_of (r := c0.row) (by simpa using hcr) ?_
      conv => whnf
      (refine gGo ?_; intros)
      rw [hdf]
      refine ⟨⟨rowsSz_cons rfl (rowsSz_cons rfl rowsSz_nil), hsz1, fun h => by cases h⟩, fitsN (n := (fltRows F0).length + 2) (b := 40) (by omega) (by omega), ?_⟩
      refine Or.inr ⟨⟨rfl, (by rw [List.length_append]), (by rw [List.length_append]), hpn⟩, ?_⟩
      conv => whnf
      (refine gGs ?_; intros)
      refine W.leG (mp := [(6, 6), (8, 8), (9, 9)]) (bo := []) (st' := ⟨[(4, .sl (tblRows L) false), (6, .bp 6 0), (8, .bp 8 0), (9, .bp 9 0)], [(6, [.rows 3 [TW.row] none]), (8, [.rows 4 [[.int .i64 p0.start, .sl (stpRows p0.steps) false, .sl (fltRows F0 ++ fltRows F0) false, .sl (rfRows C0 ++ [c0.row]) false]] none]), (9, [.rows 4 [[.int .i64 p0.start, .sl (stpRows p0.steps) false, .sl (fltRows F0 ++ fltRows [⟨c0, 3, []⟩, ⟨c0, 4, []⟩]) false, .sl (rfRows C0) false]] none])], [6, 8, 9]⟩)
        (LeG.mq (.ci 6 (.ci 8 (.ci 9 .nil)))) ?_
      have hv8 : Vw.row ⟨p0, F0 ++ F0, C0 ++ [c0]⟩ = [.int .i64 p0.start, .sl (stpRows p0.steps) false, .sl (fltRows F0 ++ fltRows F0) false, .sl (rfRows C0 ++ [c0.row]) false] := by simp [Vw.row, fltRows, rfRows]
      have hv9 : Vw.row ⟨p0, F0 ++ [⟨c0, 3, []⟩, ⟨c0, 4, []⟩], C0⟩ = [.int .i64 p0.start, .sl (stpRows p0.steps) false, .sl (fltRows F0 ++ fltRows [⟨c0, 3, []⟩, ⟨c0, 4, []⟩]) false, .sl (rfRows C0) false] := by simp [Vw.row, fltRows, rfRows]
      have spE2 := evalV_spec L ⟨p0, F0 ++ F0, C0 ++ [c0]⟩
      have spN := countV_spec L ⟨p0, F0 ++ [⟨c0, 3, []⟩, ⟨c0, 4, []⟩], C0⟩
      rw [hv8, ht1] at spE2
      rw [hv9, hn] at spN
      simp only at spE2 spN
      have hTr : Table.row ⟨TW.id, TW.name, TW.cols ++ [cc]⟩ = [.int .i64 TW.id, .str TW.name, .sl (colRows TW.cols ++ [cc.row]) false] := by simp [Table.row, colRows]
      rw [hTr] at spE2
      have hxl : (colRows TW.cols ++ [cc.row]).length = TW.cols.length + 1 := by rw [List.length_append, colRows_len]; rfl
      have hg1 : (colRows TW.cols ++ [cc.row])[TW.cols.length]? = some cc.row := by rw [← colRows_len TW.cols, List.getElem?_append_right (Nat.le_refl _), Nat.sub_self]; rfl
      have htk : (colRows TW.cols ++ [cc.row]).take TW.cols.length = colRows TW.cols := by rw [← colRows_len TW.cols, List.take_left]
      have hsz4 : rowsSz (colRows TW.cols ++ [cc.row]) 2 := by
        unfold rowsSz
        intro r hr
        rcases List.mem_append.1 hr with hr | hr
        · obtain ⟨s, _, rfl⟩ := List.mem_map.1 hr; rfl
        · rw [List.mem_singleton.1 hr]; rfl
      generalize colRows TW.cols ++ [cc.row] = A4 at *
      generalize fltRows F0 ++ fltRows F0 = A1 at *
      generalize fltRows F0 ++ fltRows [⟨c0, 3, []⟩, ⟨c0, 4, []⟩] = A2 at *
      generalize rfRows C0 ++ [c0.row] = A3 at *
      have hcT := colRows_len TW.cols
      have hg2 : (colRows TW.cols)[0]? = some cc.row := by unfold colRows; rw [List.getElem?_map, ht2]; rfl
      (refine gGo ?_; intros)
      (refine gPC (spE2) ?_; conv => whnf)
      (refine gGo ?_; intros)
      (refine gPC (spN) ?_; conv => whnf)
      (refine gGo ?_; intros)
      refine rowAt_of (r := cc.row) (by rw [Int.toNat_natCast, hcT]; exact hg1) ?_
      conv => whnf
      (refine gGs ?_; intros)
      refine gA ?_
      (refine gE env hN (by kernel_rfl) ?_; conv => whnf)
      (refine gGs ?_; intros)
      have htk2 : (List.take ((colRows TW.cols).length : Int).toNat A4).drop (Int.toNat 0) = colRows TW.cols := by rw [Int.toNat_natCast, hcT, htk]; rfl
      refine W.leG (mp := [(6, 6), (10, 10), (15, 15)]) (bo := []) (st' := ⟨[(6, .bp 6 0), (10, .bp 10 0), (15, .bp 15 0)], [(6, [.rows 3 [TW.row] none]), (10, [.rows 3 [TW.row] none]), (15, [.rows 2 [cc.row] none])], [6, 10, 15]⟩)
        (LeG.mq (.ci 6 (.cons 10 rfl rfl (.refl _) (congrArg (fun x => [Blk.rows 3 [[.int .i64 TW.id, .str TW.name, .sl x false]] none]) htk2.symm) (.ci 15 .nil)))) ?_
      have spS := same3_spec TW TW
      rw [decide_eq_true rfl] at spS
      have spS2 := same3_spec ⟨0, [], [cc]⟩ ⟨0, [], [cc]⟩
      rw [decide_eq_true rfl] at spS2
      (refine gGo ?_; intros)
      (refine gPC (spS) ?_; conv => whnf)
      (refine gGo ?_; intros)
      refine rowAt_of (r := cc.row) (by simpa using hg2) ?_
      conv => whnf
      (refine gGo ?_; intros)
      (refine gPC (spS2) ?_; conv => whnf)
      (refine gGo ?_; intros)
      (refine gPC (spA) ?_; conv => whnf)
      (refine gGr ?_; intros)
      exact ret0 rfl rfl rfl
    · (refine gGo ?_; intros)
      generalize (evalV L ⟨p0, F0, C0⟩).2 = e at *
      (refine gPC (spE) ?_; conv => whnf)
      (refine gGo ?_; intros)
      (refine gPC (spA) ?_; conv => whnf)
      (refine gGr ?_; intros)
      exact ret0 rfl rfl rfl
  · rw [decide_eq_false hll] at spL
    refine gEn env Tryz.func6 fun Γ hN hK hML => ?_
    (refine gGo ?_; intros)
    (refine gPC (spL) ?_; conv => whnf)
    (refine gGo ?_; intros)
    (refine gPC (spA) ?_; conv => whnf)
    (refine gGr ?_; intros)
    exact ret0 rfl rfl rfl
theorem twice_calls {w : World} {v0 : Value} {u0 : V} (r0 : VRel w (fun _ => False) (fun _ _ => none) u0 v0) (a0 : argShape T 2 22 u0) (hg : GRel w (fun _ => False)) :
    Calls Tryz.prog 6 #[v0] w fun e w' => e = .returned (.bool true) ∧ Go.RowKit.Below w.heap.size w w' := by
  obtain ⟨l, rfl⟩ := arg_ints a0
  refine Spec.law (twice_law l) (cargs := [v0]) rfl (fun j u c hj hc => ?_) rfl hg
  match j with
  | 0 => cases hj; cases hc; exact r0
  | j + 1 => cases hj
end Go.Sx.Sp
namespace Go.Sx.Sp
open Go Go.Sx Go.Proofs
attribute [local irreducible] GoodW famL
theorem keepV_rev (l : List Table) (p : Pth) (fs : List Flt) : keepV l p fs.reverse = keepV l p fs := by
  unfold keepV
  refine List.filter_congr fun row _ => ?_
  rw [List.all_reverse]
theorem turned_eval {l : List Table} {v : Vw} (h : keptE l v = 0) (hf2 : v.fs.length ≤ 2) (hc3 : v.cs.length ≤ 3) : evalV l ⟨v.path, v.fs.reverse, v.cs⟩ = ((evalV l v).1, 0) := by
  obtain ⟨h1, h2⟩ := keptE_zero h
  obtain ⟨hv, _, _, hfs, hcs⟩ := validV_facts h1
  have hk : keptE l ⟨v.path, v.fs.reverse, v.cs⟩ = 0 := keptE_ext h rfl (by show v.fs.reverse.length ≤ 8; rw [List.length_reverse]; omega) (by show v.cs.length ≤ 64; omega)
    (fun f hf => hfs f (List.mem_reverse.1 hf)) (fun r hr => hr)
  rw [evalV_ok hk, evalV_ok h]
  simp only
  rw [keepV_rev]
  rfl
def cntF (l : List Table) (v : Vw) (z : Flt) : Nat := ((keepV l v.path v.fs).filter fun row => keepsB z (cellV l v.path z.r row)).length
theorem more_count {l : List Table} {v : Vw} (h : keptE l v = 0) (hf2 : v.fs.length ≤ 2) (hc3 : v.cs.length ≤ 3) {c0 : Rf} (hc : v.cs[0]? = some c0) {z : Flt} (hz : z.r = c0) (hp : properB z = true) : countV l ⟨v.path, v.fs ++ [z], v.cs⟩ = ((cntF l v z : Int), 0) := by
  obtain ⟨h1, h2⟩ := keptE_zero h
  obtain ⟨hv, _, _, hfs, hcs⟩ := validV_facts h1
  have hm := List.mem_of_getElem? hc
  have hlt := (List.getElem?_eq_some_iff.1 hc).1
  have hk : keptE l ⟨v.path, v.fs ++ [z], v.cs⟩ = 0 := keptE_ext h rfl (by show (v.fs ++ _).length ≤ 8; rw [List.length_append]; simp; omega) (by show v.cs.length ≤ 64; omega)
    (fun f hf => by
      rcases List.mem_append.1 hf with hf | hf
      · exact hfs f hf
      · rw [List.mem_singleton.1 hf, hz]; exact ⟨hcs _ hm, hp⟩)
    (fun r hr => hr)
  rw [countV_ok hk (by show v.cs.length ≠ 0; omega), keepV_app]
  unfold cntF
  simp only [List.all_cons, List.all_nil, Bool.and_true]
theorem filt_add {α : Type} (f g k : α → Bool) (h : ∀ x, k x = (f x || g x) ∧ (f x && g x) = false) : ∀ R : List α, (R.filter f).length + (R.filter g).length = (R.filter k).length
  | [] => rfl
  | x :: R => by
    have h1 := filt_add f g k h R
    obtain ⟨h2, h3⟩ := h x
    simp only [List.filter_cons]
    cases hf : f x <;> cases hg : g x <;> rw [hf, hg] at h2 h3 <;> simp_all <;> omega
theorem cnt_vals (l : List Table) (v : Vw) (c0 : Rf) (w a : Str) : cntF l v ⟨c0, 1, w⟩ + cntF l v ⟨c0, 2, w⟩ = cntF l v ⟨c0, 4, a⟩ := by
  unfold cntF
  refine filt_add _ _ _ (fun row => ?_) _
  simp only
  generalize cellV l v.path c0 row = c
  have h1 : keepsB ⟨c0, 1, w⟩ c = (!c.null && decide (c.text = w)) := by unfold keepsB; simp
  have h2 : keepsB ⟨c0, 2, w⟩ c = (!c.null && !decide (c.text = w)) := by unfold keepsB; simp
  have h4 : keepsB ⟨c0, 4, a⟩ c = !c.null := by unfold keepsB; simp
  rw [h1, h2, h4]
  cases c.null <;> cases decide (c.text = w) <;> exact ⟨rfl, rfl⟩
theorem cnt_all (l : List Table) (v : Vw) (c0 : Rf) (a b : Str) : cntF l v ⟨c0, 3, a⟩ + cntF l v ⟨c0, 4, b⟩ = (keepV l v.path v.fs).length := by
  have h0 : (keepV l v.path v.fs).length = ((keepV l v.path v.fs).filter fun _ => true).length := by rw [List.filter_eq_self.2 fun _ _ => rfl]
  rw [h0]
  unfold cntF
  refine filt_add _ _ _ (fun row => ?_) _
  simp only
  generalize cellV l v.path c0 row = c
  have h3 : keepsB ⟨c0, 3, a⟩ c = c.null := by unfold keepsB; simp
  have h4 : keepsB ⟨c0, 4, b⟩ c = !c.null := by unfold keepsB; simp
  rw [h3, h4]
  cases c.null <;> exact ⟨rfl, rfl⟩
theorem cntF_le (l : List Table) (v : Vw) (z : Flt) : cntF l v z ≤ (keepV l v.path v.fs).length := List.length_filter_le _ _
theorem rowsN_eval {l : List Table} {v : Vw} (h : keptE l v = 0) {c0 : Rf} (hc : v.cs[0]? = some c0) : rowsN (evalV l v).1 = (keepV l v.path v.fs).length := by
  rw [evalV_ok h]
  obtain ⟨hl, he⟩ := List.getElem?_eq_some_iff.1 hc
  cases hcs : v.cs with
  | nil => rw [hcs] at hl; cases hl
  | cons c cs =>
    unfold rowsN
    simp only [List.map_cons]
    unfold shownC
    simp
end Go.Sx.Sp
namespace Go.Sx.Sp
open Go Go.Sx Go.Proofs
attribute [local irreducible] GoodW famL
theorem fltGo_le {t : List Int} (all : List Rf) : ∀ (n : Nat) (s : List Flt × Nat), s.2 ≤ t.length → (fltGo t all n s).2 ≤ t.length
  | 0, s, h => h
  | n + 1, s, h => by
    refine fltGo_le all n (fltStep t all s) ?_
    unfold fltStep
    simp only
    split
    · exact nextP_le (nextP_le (nextP_le h))
    · exact nextP_le (nextP_le h)
theorem rfGo_le {t : List Int} (all : List Rf) : ∀ (n : Nat) (s : List Rf × Nat), s.2 ≤ t.length → (rfGo t all n s).2 ≤ t.length
  | 0, s, h => h
  | n + 1, s, h => rfGo_le all n (rfStep t all s) (nextP_le h)
theorem someF_le {t : List Int} {l : List Table} {q : Nat} (hq : q ≤ t.length) : (someF t l q).2 ≤ t.length :=
  rfGo_le _ _ _ (nextP_le (fltGo_le _ _ _ (nextP_le (pathF_le hq))))
set_option maxHeartbeats 16000000 in
theorem filters_law (t : List Int) (text : Str) : Spec Tryz.prog 5 [.sl (intRows .i64 t) false, .str text] [] (.bool true) [] := by
  have hl := intRows_len .i64 t
  have spL := light_spec t
  have spA := awake34_spec
  by_cases hll : t.length ≤ 500
  · rw [decide_eq_true hll] at spL
    by_cases hlx : text.length ≤ 100
    · obtain ⟨⟨j1, j2⟩, j3, j4⟩ := joined_ok (l := t) (most := 3) (p := 0) (by omega) (Nat.zero_le _)
      have spJ := joined_spec t 3 0 (by omega) (Nat.zero_le _)
      generalize (joinedF t 3 0).1 = L at *
      generalize (joinedF t 3 0).2 = q at *
      have j2 : L.length ≤ 3 := j2
      have hlist := listB_J j3 (by omega)
      have hrj := refs_J j3 (by omega) t q
      have spS := some_own t L q hlist (by omega) (by omega) j4 hrj.1 (by omega)
      have hlen := someF_len t L q j4
      have hq2 : (someF t L q).2 ≤ t.length := someF_le j4
      generalize (someF t L q).2 = q2 at *
      generalize hv0 : (someF t L q).1 = v0 at *
      obtain ⟨p0, F0, C0⟩ := v0
      simp only at hlen spS
      clear hv0 hrj
      have hFl := fltRows_len F0
      have hCl := rfRows_len C0
      have spE := evalV_spec L ⟨p0, F0, C0⟩
      rw [show Vw.row ⟨p0, F0, C0⟩ = [.int .i64 p0.start, .sl (stpRows p0.steps) false, .sl (fltRows F0) false, .sl (rfRows C0) false] from rfl] at spE
      refine gEn env Tryz.func5 fun Γ hN hK hML => ?_
      (refine gGo ?_; intros)
      (refine gPC (spL) ?_; conv => whnf)
      (refine gGo ?_; intros)
      (refine gCA [] [(5, 170)] [] (roll_spec t) ?_; conv => whnf)
      (refine gGo ?_; intros)
      (refine gCA [(0, 170)] [] [] (spJ) ?_; conv => whnf)
      (refine gGo ?_; intros)
      (refine gCA [(0, 170)] [(93, 93), (94, 94)] [] (spS) ?_; conv => whnf)
      (refine gGs ?_; intros)
      refine W.leG (mp := [(7, 7), (170, 170)]) (bo := [93, 94]) (st' := ⟨[(1, .str text), (5, .bp 170 0), (6, .sl (tblRows L) false), (7, .bp 7 0)], [(7, [.rows 4 [[.int .i64 p0.start, .sl (stpRows p0.steps) false, .sl (fltRows F0) false, .sl (rfRows C0) false]] none]), (170, [diceB t q2])], [7, 170]⟩)
        (LeG.mq (.cons 7 (b1 := .rows 4 [[.int .i64 p0.start, .sl (stpRows p0.steps) false, .sl (fltRows F0) false, .sl (rfRows C0) false]] none) rfl rfl (.rows _ _ _ (by repeat' (first | exact trivial | exact ⟨Lent.refl _, rfl⟩ | exact ⟨Lent.norm _, rfl⟩ | exact ⟨Lent.whole rfl rfl (by first | rfl | exact List.length_append.symm | exact hlenR | simp) rfl (by first | exact .inl rfl | exact .inr rfl), rfl⟩ | apply And.intro))) rfl (.ci 170 .nil))) ?_
      by_cases he : (evalV L ⟨p0, F0, C0⟩).2 = 0
      · have hk := evalV_zero he
        rw [he] at spE
        by_cases hc0 : C0.length = 0
        · generalize (evalV L ⟨p0, F0, C0⟩).1 = TW at *
          (refine gGo ?_; intros)
          (refine gPC (spE) ?_; conv => whnf)
          (refine gGo ?_; intros)
          (refine gPC (spA) ?_; conv => whnf)
          (refine gGr ?_; intros)
          exact ret0 rfl rfl rfl
        obtain ⟨c0, hc⟩ : ∃ c0, C0[0]? = some c0 := ⟨C0[0], List.getElem?_eq_getElem (by omega)⟩
        have hcr : (rfRows C0)[0]? = some c0.row := by unfold rfRows; rw [List.getElem?_map, hc]; rfl
        have htu := turned_eval hk hlen.1 hlen.2
        simp only at htu
        have hTl : ((evalV L ⟨p0, F0, C0⟩).1).cols.length ≤ 3 := by rw [evalV_ok hk]; show (List.map _ C0).length ≤ 3; rw [List.length_map]; exact hlen.2
        have hRN := rowsN_eval hk hc
        have hR := (planE_ok (keptE_zero hk).2).2
        simp only at hR hRN
        have hKR : (keepV L p0 F0).length ≤ (rowsL L p0).length := List.length_filter_le _ _
        have hcnt := fun z hz hp => more_count hk hlen.1 hlen.2 hc (z := z) hz hp
        have hcv := cnt_vals L ⟨p0, F0, C0⟩ c0
        have hca := cnt_all L ⟨p0, F0, C0⟩ c0
        have hcl := cntF_le L ⟨p0, F0, C0⟩
        simp only at hcnt hca hcl
        have hsz1 := fltRows_sz F0
        have hsz2 := rfRows_sz C0
        have spRows := rows3_spec (evalV L ⟨p0, F0, C0⟩).1
        generalize (evalV L ⟨p0, F0, C0⟩).1 = TW at *
        rw [hRN] at spRows
        generalize (keepV L p0 F0).length = rn at *
        generalize cntF L ⟨p0, F0, C0⟩ = cn at *
        (refine gGo ?_; intros)
        (refine gPC (spE) ?_; conv => whnf)
        (refine gGo ?_; intros)
        refine W.ownCell 10 0 2 92 4 rfl rfl rfl rfl rfl ?_
        refine W.leG (mp := [(7, 7), (8, 8), (170, 170), (10, 10), (92, 92)]) (bo := []) (st' := ⟨[(1, .str text), (5, .bp 170 0), (6, .sl (tblRows L) false), (7, .bp 7 0), (8, .bp 8 0), (10, .bp 10 0), (11, .int .i64 (((fltRows F0).length : Nat) - 1))], [(7, [.rows 4 [[.int .i64 p0.start, .sl (stpRows p0.steps) false, .sl (fltRows F0) false, .sl (rfRows C0) false]] none]), (8, [.rows 3 [TW.row] none]), (170, [diceB t q2]), (10, [.rows 4 [[.int .i64 p0.start, .sl (stpRows p0.steps) false, .osl 92 0 0 (fltRows (F0.reverse.take (0))).length (fltRows (F0.reverse.take (0))).length, .sl (rfRows C0) false]] none]), (92, [.rows 4 (fltRows (F0.reverse.take (0))) (some [])])], [7, 8, 170, 10, 92]⟩)
          (LeG.mq (.ci 7 (.ci 8 (.ci 170 (.ci 10 (.ci 92 .nil)))))) ?_
        refine W.loopG (fun m st => ∃ (k : Nat) (i : Int), k ≤ F0.length ∧ i = (F0.length : Int) - 1 - k ∧ m = F0.length - k ∧ st = ⟨[(1, .str text), (5, .bp 170 0), (6, .sl (tblRows L) false), (7, .bp 7 0), (8, .bp 8 0), (10, .bp 10 0), (11, .int .i64 i)], [(7, [.rows 4 [[.int .i64 p0.start, .sl (stpRows p0.steps) false, .sl (fltRows F0) false, .sl (rfRows C0) false]] none]), (8, [.rows 3 [TW.row] none]), (170, [diceB t q2]), (10, [.rows 4 [[.int .i64 p0.start, .sl (stpRows p0.steps) false, .osl 92 0 0 (fltRows (F0.reverse.take (k))).length (fltRows (F0.reverse.take (k))).length, .sl (rfRows C0) false]] none]), (92, [.rows 4 (fltRows (F0.reverse.take (k))) (some [])])], [7, 8, 170, 10, 92]⟩)
          F0.length _ ⟨0, (((fltRows F0).length : Nat) : Int) - 1, by omega, by rw [hFl]; omega, by omega, rfl⟩ ⟨[(7, 7), (8, 8), (170, 170), (10, 10), (92, 92)], [], [], LeG.mq (.ci 7 (.ci 8 (.ci 170 (.ci 10 (.ci 92 .nil)))))⟩ ?_
        rintro m st ⟨k, i, hk1, hi, rfl, rfl⟩
        have hn := fltRows_len (F0.reverse.take k)
        rw [List.length_take, List.length_reverse] at hn
        (refine gGo ?_; intros)
        refine boolRes_split (fun hb => ?_) (fun hb => ?_) <;> conv => whnf
        · have hkl : k < F0.length := by omega
          have hg := fltRows_get (l := F0) (i := F0.length - 1 - k) (by omega)
          have hsn : fltRows (F0.reverse.take (k + 1)) = fltRows (F0.reverse.take k) ++ [F0[F0.length - 1 - k].row] := by
            rw [List.take_succ_eq_append_getElem (by rw [List.length_reverse]; exact hkl), List.getElem_reverse]
            unfold fltRows
            rw [List.map_append]; rfl
          have hin : i.toNat = F0.length - 1 - k := by omega
          generalize F0[F0.length - 1 - k] = f at *
          generalize fltRows (F0.reverse.take k) = A0 at *
          (refine gGo ?_; intros)
          refine rowAt_of (r := f.row) (by rw [hin]; exact hg) ?_
          conv => whnf
          (refine gGo ?_; intros)
          refine ⟨⟨rowsSz_cons rfl rowsSz_nil, rfl⟩, fitsN (n := A0.length + 1) (b := 40) (by omega) (by omega), .inl ⟨rfl, rfl, ?_⟩⟩
          conv => whnf
          (refine gGo ?_; intros)
          refine ⟨_, _, ?_, ⟨k + 1, _, by omega, ?_, rfl, rfl⟩, [(7, 7), (8, 8), (170, 170), (10, 10), (92, 92)], [], [], LeG.mq (.ci 7 (.ci 8 (.ci 170 (.cons 10 rfl rfl (.refl _) (by rw [hsn, List.length_append]; rfl) (.cons 92 rfl rfl (.refl _) (by rw [hsn]; rfl) .nil)))))⟩
          · omega
          · omega
        · have hke : k = F0.length := by omega
          rw [hke, ← List.length_reverse, List.take_length]
          refine gD rfl ?_
          refine gG ?_
          conv => whnf
          refine W.leG (mp := [(7, 7), (8, 8), (170, 170), (10, 10)]) (bo := [92]) (st' := ⟨[(1, .str text), (5, .bp 170 0), (6, .sl (tblRows L) false), (7, .bp 7 0), (8, .bp 8 0), (10, .bp 10 0)], [(7, [.rows 4 [[.int .i64 p0.start, .sl (stpRows p0.steps) false, .sl (fltRows F0) false, .sl (rfRows C0) false]] none]), (8, [.rows 3 [TW.row] none]), (170, [diceB t q2]), (10, [.rows 4 [[.int .i64 p0.start, .sl (stpRows p0.steps) false, .sl (fltRows F0.reverse) false, .sl (rfRows C0) false]] none])], [7, 8, 170, 10]⟩)
            (LeG.mq (.ci 7 (.ci 8 (.ci 170 (.cons 10 (b1 := .rows 4 [[.int .i64 p0.start, .sl (stpRows p0.steps) false, .sl (fltRows F0.reverse) false, .sl (rfRows C0) false]] none) rfl rfl (.rows _ _ _ (by repeat' (first | exact trivial | exact ⟨Lent.refl _, rfl⟩ | exact ⟨Lent.norm _, rfl⟩ | exact ⟨Lent.whole rfl rfl (by first | rfl | exact List.length_append.symm | exact hlenR | simp) rfl (by first | exact .inl rfl | exact .inr rfl), rfl⟩ | apply And.intro))) rfl .nil))))) ?_
          have spE2 := evalV_spec L ⟨p0, F0.reverse, C0⟩
          rw [htu, show Vw.row ⟨p0, F0.reverse, C0⟩ = [.int .i64 p0.start, .sl (stpRows p0.steps) false, .sl (fltRows F0.reverse) false, .sl (rfRows C0) false] from rfl] at spE2
          simp only at spE2
          have spS3 := same3_spec TW TW
          rw [decide_eq_true rfl] at spS3
          have hwl : [[97], [98], text].length = 3 := rfl
          obtain ⟨s, hs, spWo⟩ := word_spec t q2 [[97], [98], text] (by simp) (by rw [hwl]; omega) hq2
          have hsl : s.length ≤ 100 := by
            simp only [List.mem_cons, List.not_mem_nil, or_false] at hs
            rcases hs with rfl | rfl | rfl
            · decide
            · decide
            · exact hlx
          (refine gGo ?_; intros)
          (refine gPC (spE2) ?_; conv => whnf)
          (refine gGo ?_; intros)
          (refine gPC (spS3) ?_; conv => whnf)
          (refine gGo ?_; intros)
          (refine gCA [(0, 170)] [] [] (spWo) ?_; conv => whnf)
          (refine gGo ?_; intros)
          have hvz : ∀ (kd : Int) (tx : Str), Vw.row ⟨p0, F0 ++ [⟨c0, kd, tx⟩], C0⟩ = [.int .i64 p0.start, .sl (stpRows p0.steps) false, .sl (fltRows F0 ++ [[.int .i64 c0.t, .int .i64 c0.c, .int .i64 kd, .str tx]]) false, .sl (rfRows C0) false] := fun kd tx => by simp [Vw.row, fltRows, Flt.row]
          have hpz : ∀ (kd : Int) (tx : Str), pureB (fltRows F0 ++ [[.int .i64 c0.t, .int .i64 c0.c, .int .i64 kd, .str tx]]) = true := fun kd tx => by
            have h1 := flt_pure (F0 ++ [⟨c0, kd, tx⟩])
            rwa [show fltRows (F0 ++ [⟨c0, kd, tx⟩]) = fltRows F0 ++ [[.int .i64 c0.t, .int .i64 c0.c, .int .i64 kd, .str tx]] by simp [fltRows, Flt.row]] at h1
          have hdf : List.drop (Int.toNat 0) (List.take (((fltRows F0).length : Nat) : Int).toNat (fltRows F0)) = fltRows F0 := by rw [Int.toNat_natCast, List.take_length]; rfl
          have hP : s.length ≤ 1024 := by omega
          have spC : ∀ (kd : Int) (tx : Str), properB ⟨c0, kd, tx⟩ = true → Spec Tryz.prog 25 [.sl (tblRows L) false, .agg [.int .i64 p0.start, .sl (stpRows p0.steps) false, .sl (fltRows F0 ++ [[.int .i64 c0.t, .int .i64 c0.c, .int .i64 kd, .str tx]]) false, .sl (rfRows C0) false]] [] (.tup [.int .i64 (cn ⟨c0, kd, tx⟩), .int .i64 0]) [] := fun kd tx hp => by
            have h1 := countV_spec L ⟨p0, F0 ++ [⟨c0, kd, tx⟩], C0⟩
            rw [hvz, hcnt ⟨c0, kd, tx⟩ rfl hp] at h1
            exact h1
          have sp1 := spC 1 s (by unfold properB; simp [hP])
          have sp2 := spC 2 s (by unfold properB; simp [hP])
          have sp3 := spC 3 [] rfl
          have sp4 := spC 4 [] rfl
          clear spC
          have hcv := hcv s []
          have hca := hca [] []
          have le1 := hcl ⟨c0, 1, s⟩
          have le2 := hcl ⟨c0, 2, s⟩
          have le3 := hcl ⟨c0, 3, []⟩
          have le4 := hcl ⟨c0, 4, []⟩
          generalize cn ⟨c0, 1, s⟩ = n1 at *
          generalize cn ⟨c0, 2, s⟩ = n2 at *
          generalize cn ⟨c0, 3, []⟩ = n3 at *
          generalize cn ⟨c0, 4, []⟩ = n4 at *
          refine W.leG (mp := [(7, 7), (8, 8), (15, 15)]) (bo := []) (st' := ⟨[(6, .sl (tblRows L) false), (7, .bp 7 0), (8, .bp 8 0), (14, .str s), (15, .bp 15 0), (16, .int .i64 (1))], [(7, [.rows 4 [[.int .i64 p0.start, .sl (stpRows p0.steps) false, .sl (fltRows F0) false, .sl (rfRows C0) false]] none]), (8, [.rows 3 [TW.row] none]), (15, [.rows 5 [[.int .i64 0, .int .i64 (0), .int .i64 (0), .int .i64 (0), .int .i64 (0)]] none])], [7, 8, 15]⟩)
            (LeG.mq (.ci 7 (.ci 8 (.ci 15 .nil)))) ?_
          refine W.loopG (fun m st => (m = 4 ∧ st = ⟨[(6, .sl (tblRows L) false), (7, .bp 7 0), (8, .bp 8 0), (14, .str s), (15, .bp 15 0), (16, .int .i64 (1))], [(7, [.rows 4 [[.int .i64 p0.start, .sl (stpRows p0.steps) false, .sl (fltRows F0) false, .sl (rfRows C0) false]] none]), (8, [.rows 3 [TW.row] none]), (15, [.rows 5 [[.int .i64 0, .int .i64 (0), .int .i64 (0), .int .i64 (0), .int .i64 (0)]] none])], [7, 8, 15]⟩) ∨ (m = 3 ∧ st = ⟨[(6, .sl (tblRows L) false), (7, .bp 7 0), (8, .bp 8 0), (14, .str s), (15, .bp 15 0), (16, .int .i64 (2))], [(7, [.rows 4 [[.int .i64 p0.start, .sl (stpRows p0.steps) false, .sl (fltRows F0) false, .sl (rfRows C0) false]] none]), (8, [.rows 3 [TW.row] none]), (15, [.rows 5 [[.int .i64 0, .int .i64 (n1), .int .i64 (0), .int .i64 (0), .int .i64 (0)]] none])], [7, 8, 15]⟩) ∨ (m = 2 ∧ st = ⟨[(6, .sl (tblRows L) false), (7, .bp 7 0), (8, .bp 8 0), (14, .str s), (15, .bp 15 0), (16, .int .i64 (3))], [(7, [.rows 4 [[.int .i64 p0.start, .sl (stpRows p0.steps) false, .sl (fltRows F0) false, .sl (rfRows C0) false]] none]), (8, [.rows 3 [TW.row] none]), (15, [.rows 5 [[.int .i64 0, .int .i64 (n1), .int .i64 (n2), .int .i64 (0), .int .i64 (0)]] none])], [7, 8, 15]⟩) ∨ (m = 1 ∧ st = ⟨[(6, .sl (tblRows L) false), (7, .bp 7 0), (8, .bp 8 0), (14, .str s), (15, .bp 15 0), (16, .int .i64 (4))], [(7, [.rows 4 [[.int .i64 p0.start, .sl (stpRows p0.steps) false, .sl (fltRows F0) false, .sl (rfRows C0) false]] none]), (8, [.rows 3 [TW.row] none]), (15, [.rows 5 [[.int .i64 0, .int .i64 (n1), .int .i64 (n2), .int .i64 (n3), .int .i64 (0)]] none])], [7, 8, 15]⟩) ∨ (m = 0 ∧ st = ⟨[(6, .sl (tblRows L) false), (7, .bp 7 0), (8, .bp 8 0), (14, .str s), (15, .bp 15 0), (16, .int .i64 (5))], [(7, [.rows 4 [[.int .i64 p0.start, .sl (stpRows p0.steps) false, .sl (fltRows F0) false, .sl (rfRows C0) false]] none]), (8, [.rows 3 [TW.row] none]), (15, [.rows 5 [[.int .i64 0, .int .i64 (n1), .int .i64 (n2), .int .i64 (n3), .int .i64 (n4)]] none])], [7, 8, 15]⟩))
            4 _ (.inl ⟨rfl, rfl⟩) ⟨[(7, 7), (8, 8), (15, 15)], [], [], LeG.mq (.ci 7 (.ci 8 (.ci 15 .nil)))⟩ ?_
          rintro m st (⟨rfl, rfl⟩ | ⟨rfl, rfl⟩ | ⟨rfl, rfl⟩ | ⟨rfl, rfl⟩ | ⟨rfl, rfl⟩)
          · (refine gGo ?_; intros)
            refine rowAt_of (r := c0.row) (by simpa using hcr) ?_
            conv => whnf
            (refine gGo ?_; intros)
            rw [hdf]
            refine ⟨⟨rowsSz_cons rfl rowsSz_nil, hsz1, fun h => by cases h⟩, fitsN (n := (fltRows F0).length + 1) (b := 40) (by omega) (by omega), ?_⟩
            refine Or.inr ⟨⟨rfl, (by rw [List.length_append]), (by rw [List.length_append]), hpz _ _⟩, ?_⟩
            conv => whnf
            (refine gGo ?_; intros)
            (refine gPC (sp1) ?_; conv => whnf)
            (refine gGo ?_; intros)
            (refine gPC (spRows) ?_; conv => whnf)
            (refine gGo ?_; intros)
            refine ⟨3, _, by omega, .inr (.inl ⟨rfl, rfl⟩), [(7, 7), (8, 8), (15, 15)], [], [], LeG.mq (.ci 7 (.ci 8 (.ci 15 .nil)))⟩
          · (refine gGo ?_; intros)
            refine rowAt_of (r := c0.row) (by simpa using hcr) ?_
            conv => whnf
            (refine gGo ?_; intros)
            rw [hdf]
            refine ⟨⟨rowsSz_cons rfl rowsSz_nil, hsz1, fun h => by cases h⟩, fitsN (n := (fltRows F0).length + 1) (b := 40) (by omega) (by omega), ?_⟩
            refine Or.inr ⟨⟨rfl, (by rw [List.length_append]), (by rw [List.length_append]), hpz _ _⟩, ?_⟩
            conv => whnf
            (refine gGo ?_; intros)
            (refine gPC (sp2) ?_; conv => whnf)
            (refine gGo ?_; intros)
            (refine gPC (spRows) ?_; conv => whnf)
            (refine gGo ?_; intros)
            refine ⟨2, _, by omega, .inr (.inr (.inl ⟨rfl, rfl⟩)), [(7, 7), (8, 8), (15, 15)], [], [], LeG.mq (.ci 7 (.ci 8 (.ci 15 .nil)))⟩
          · (refine gGo ?_; intros)
            refine rowAt_of (r := c0.row) (by simpa using hcr) ?_
            conv => whnf
            (refine gGo ?_; intros)
            rw [hdf]
            refine ⟨⟨rowsSz_cons rfl rowsSz_nil, hsz1, fun h => by cases h⟩, fitsN (n := (fltRows F0).length + 1) (b := 40) (by omega) (by omega), ?_⟩
            refine Or.inr ⟨⟨rfl, (by rw [List.length_append]), (by rw [List.length_append]), hpz _ _⟩, ?_⟩
            conv => whnf
            (refine gGo ?_; intros)
            (refine gPC (sp3) ?_; conv => whnf)
            (refine gGo ?_; intros)
            (refine gPC (spRows) ?_; conv => whnf)
            (refine gGo ?_; intros)
            refine ⟨1, _, by omega, .inr (.inr (.inr (.inl ⟨rfl, rfl⟩))), [(7, 7), (8, 8), (15, 15)], [], [], LeG.mq (.ci 7 (.ci 8 (.ci 15 .nil)))⟩
          · (refine gGo ?_; intros)
            refine rowAt_of (r := c0.row) (by simpa using hcr) ?_
            conv => whnf
            (refine gGo ?_; intros)
            rw [hdf]
            refine ⟨⟨rowsSz_cons rfl rowsSz_nil, hsz1, fun h => by cases h⟩, fitsN (n := (fltRows F0).length + 1) (b := 40) (by omega) (by omega), ?_⟩
            refine Or.inr ⟨⟨rfl, (by rw [List.length_append]), (by rw [List.length_append]), hpz _ _⟩, ?_⟩
            conv => whnf
            (refine gGo ?_; intros)
            (refine gPC (sp4) ?_; conv => whnf)
            (refine gGo ?_; intros)
            (refine gPC (spRows) ?_; conv => whnf)
            (refine gGo ?_; intros)
            refine ⟨0, _, by omega, .inr (.inr (.inr (.inr ⟨rfl, rfl⟩))), [(7, 7), (8, 8), (15, 15)], [], [], LeG.mq (.ci 7 (.ci 8 (.ci 15 .nil)))⟩
          · (refine gGo ?_; intros)
            (refine gPC (spRows) ?_; conv => whnf)
            (refine gGo ?_; intros)
            (refine gPC (spA) ?_; conv => whnf)
            (refine gGr ?_; intros)
            exact ret0 rfl rfl rfl
      · generalize (evalV L ⟨p0, F0, C0⟩).2 = e at *
        (refine gGo ?_; intros)
        (refine gPC (spE) ?_; conv => whnf)
        (refine gGo ?_; intros)
        (refine gPC (spA) ?_; conv => whnf)
        (refine gGr ?_; intros)
        exact ret0 rfl rfl rfl
    · refine gEn env Tryz.func5 fun Γ hN hK hML => ?_
      (refine gGo ?_; intros)
      (refine gPC (spL) ?_; conv => whnf)
      (refine gGo ?_; intros)
      (refine gPC (spA) ?_; conv => whnf)
      (refine gGr ?_; intros)
      exact ret0 rfl rfl rfl
  · rw [decide_eq_false hll] at spL
    refine gEn env Tryz.func5 fun Γ hN hK hML => ?_
    (refine gGo ?_; intros)
    (refine gPC (spL) ?_; conv => whnf)
    (refine gGo ?_; intros)
    (refine gPC (spA) ?_; conv => whnf)
    (refine gGr ?_; intros)
    exact ret0 rfl rfl rfl
theorem arg_str {n : Nat} {u : V} (hs : argShape T (n + 1) 9 u) : ∃ x : Str, u = .str x := by
  obtain ⟨x, h, _⟩ := shape_str (T := T) (t := 9) rfl (argShape_one (T := T) (t := 9) rfl rfl hs)
  cases h
  exact ⟨x, rfl⟩
theorem filters_calls {w : World} {v0 v1 : Value} {u0 u1 : V} (r0 : VRel w (fun _ => False) (fun _ _ => none) u0 v0) (r1 : VRel w (fun _ => False) (fun _ _ => none) u1 v1) (a0 : argShape T 2 22 u0) (a1 : argShape T 1 9 u1) (hg : GRel w (fun _ => False)) :
    Calls Tryz.prog 5 #[v0, v1] w fun e w' => e = .returned (.bool true) ∧ Go.RowKit.Below w.heap.size w w' := by
  obtain ⟨l, rfl⟩ := arg_ints a0
  obtain ⟨s, rfl⟩ := arg_str a1
  refine Spec.law (filters_law l s) (cargs := [v0, v1]) rfl (fun j u c hj hc => ?_) rfl hg
  match j with
  | 0 => cases hj; cases hc; exact r0
  | 1 => cases hj; cases hc; exact r1
  | j + 2 => cases hj
end Go.Sx.Sp
