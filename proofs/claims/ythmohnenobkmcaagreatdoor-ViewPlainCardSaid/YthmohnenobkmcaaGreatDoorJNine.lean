/- Joining two tables, and the table of a path. -/
import Derived.Test.YthmohnenobkmcaaGreatDoorJEight
import Derived.Test.YthmohnenobkmcaaGreatDoorJFour
import Derived.Test.YthmohnenobkmcaaGreatDoorJSix
import Derived.Test.YthmohnenobkmcaaGreatDoorSxFour
set_option linter.unusedVariables false
set_option linter.unusedSimpArgs false
namespace Go.Sx.Sp
open Go Go.Sx Go.Proofs
attribute [local irreducible] GoodW famL
end Go.Sx.Sp
namespace Go.Sx.Sp
open Go Go.Sx Go.Proofs
attribute [local irreducible] GoodW famL
theorem cellD_T {t : Table} {k : Nat} (hk : k < t.cols.length) (y : Nat) : cellD (t.cols[k]).cells y = cellT t k y := by
  unfold cellD cellT
  rw [List.getD_eq_getElem?_getD (l := t.cols), List.getElem?_eq_getElem hk]; rfl
end Go.Sx.Sp
namespace Go.Sx.Sp
open Go Go.Sx Go.Proofs
attribute [local irreducible] GoodW famL
end Go.Sx.Sp
namespace Go.Sx.Sp
open Go Go.Sx Go.Proofs
attribute [local irreducible] GoodW famL
def pathJ (l : List Table) (p : Pth) : Table × Int :=
  if planE l p = 0 then (if atN (tabsM l p) (p.steps.length + 1) ≤ 64 then (togT (tabsM l p) (rowsL l p), 0) else (Table.zero, 3)) else (Table.zero, planE l p)
end Go.Sx.Sp
namespace Go.Sx.Sp
open Go Go.Sx Go.Proofs
attribute [local irreducible] GoodW famL
end Go.Sx.Sp
namespace Go.Sx.Sp
open Go Go.Sx Go.Proofs
attribute [local irreducible] GoodW famL
section
variable {l : List Table} {a b : Table} {x y : Nat}
end
end Go.Sx.Sp
namespace Go.Sx.Sp
open Go Go.Sx Go.Proofs
attribute [local irreducible] GoodW famL
end Go.Sx.Sp
namespace Go.Sx.Sp
open Go Go.Sx Go.Proofs Go.RowKit
attribute [local irreducible] GoodW famL
end Go.Sx.Sp
namespace Go.Sx.Sp
open Go Go.Sx Go.Proofs
attribute [local irreducible] GoodW famL
end Go.Sx.Sp
namespace Go.Sx.Sp
open Go Go.Sx Go.Proofs Go.RowKit
attribute [local irreducible] GoodW famL
end Go.Sx.Sp
namespace Go.Sx.Sp
open Go Go.Sx Go.Proofs Go.RowKit
attribute [local irreducible] GoodW famL
end Go.Sx.Sp
namespace Go.Sx.Sp
open Go Go.Sx Go.Proofs Go.RowKit
attribute [local irreducible] GoodW famL
end Go.Sx.Sp
namespace Go.Sx.Sp
open Go Go.Sx Go.Proofs Go.RowKit
attribute [local irreducible] GoodW famL
section
variable (l : List Table) (p : Pth)
end
section
variable {l : List Table} {p : Pth}
end
end Go.Sx.Sp
namespace Go.Sx.Sp
open Go Go.Sx Go.Proofs Go.RowKit
attribute [local irreducible] GoodW famL
end Go.Sx.Sp
namespace Go.Sx.Sp
open Go Go.Sx Go.Proofs Go.RowKit
attribute [local irreducible] GoodW famL
end Go.Sx.Sp
namespace Go.Sx.Sp
open Go Go.Sx Go.Proofs Go.RowKit
attribute [local irreducible] GoodW famL
set_option maxHeartbeats 16000000 in
theorem together_spec (t0 : Table) (ts : List Table) (R : List (List Nat)) (hl : (t0 :: ts).length ≤ 100) (hR : R.length ≤ 4096) (hval : ∀ t ∈ t0 :: ts, validB t = true)
    (hmem : ∀ r ∈ R, (t0 :: ts).length ≤ r.length ∧ ∀ (i : Nat) t, (t0 :: ts)[i]? = some t → r.getD i 0 < rowsN t) :
    Spec Tryz.prog 48 [.sl (tblRows (t0 :: ts)) false, .sl (rowRows R) false] [] (.agg (togT (t0 :: ts) R).row) [] := by
  have htl := tblRows_len (t0 :: ts)
  have hrl := rowRows_len R
  have hCl := togC_len (t0 :: ts) R
  have hcols : ∀ i, i ≤ (t0 :: ts).length → atN (t0 :: ts) i ≤ i * 64 := fun i => by
    induction i with
    | zero => intro _; simp [atN]
    | succ i ih2 =>
      intro h2
      have h3 : (t0 :: ts)[i]? = some (t0 :: ts)[i] := List.getElem?_eq_getElem (by omega)
      rw [atN_succ h3]
      have := ih2 (by omega)
      have := validB_cols (hval _ (List.getElem_mem (show i < (t0 :: ts).length by omega)))
      omega
  have hg0 : (tblRows (t0 :: ts))[0]? = some t0.row := rfl
  have hrow : (togT (t0 :: ts) R).row = [.int .i64 t0.id, .str t0.name, .sl (colRows (togC (t0 :: ts) R)) false] := rfl
  rw [hrow]
  refine gEn env Tryz.func48 fun Γ hN hK hML => ?_
  (refine gGo ?_; intros)
  refine W.ownCell 5 0 2 93 2 rfl rfl rfl rfl rfl ?_
  refine W.loopG (fun z st => ∃ k : Nat, k ≤ (t0 :: ts).length ∧ z = (t0 :: ts).length - k ∧ st = ⟨[(1, .sl (rowRows R) false), (4, .bp 4 0), (5, .bp 5 0), (22, .sl (tblRows (t0 :: ts)) false), (23, .int .i64 (tblRows (t0 :: ts)).length), (24, .int .i64 k)], [(4, [.rows 3 [[.int .i64 0, .str [], .nils]] none]), (5, [.rows 3 [[.int .i64 t0.id, .str t0.name, .osl 93 0 0 (colRows ((togC (t0 :: ts) R).take (atN (t0 :: ts) k))).length (colRows ((togC (t0 :: ts) R).take (atN (t0 :: ts) k))).length]] none]), (93, [.rows 2 (colRows ((togC (t0 :: ts) R).take (atN (t0 :: ts) k))) (some [])])], [4, 5, 93]⟩)
    (t0 :: ts).length _ ⟨0, by omega, by omega, rfl⟩ ⟨[(4, 4), (5, 5), (93, 93)], [], [], .mq (.ci 4 (.ci 5 (.ci 93 .nil)))⟩ ?_
  rintro z st ⟨k, hk, rfl, rfl⟩
  have hatk := hcols k hk
  (refine gGo ?_; intros)
  refine boolRes_split (fun hb => ?_) (fun hb => ?_) <;> conv => whnf
  · have hlt : k < (t0 :: ts).length := by omega
    have hg := tblRows_get hlt
    have htk : (t0 :: ts)[k]? = some (t0 :: ts)[k] := List.getElem?_eq_getElem hlt
    have hsu := atN_succ htk
    have hle := atN_le (t0 :: ts) (k + 1)
    have hvt := hval _ (List.getElem_mem hlt)
    have hmk : ∀ r ∈ R, k < r.length ∧ r.getD k 0 < rowsN (t0 :: ts)[k] := fun r hr => ⟨by have := (hmem r hr).1; omega, (hmem r hr).2 k _ htk⟩
    have hcg : ∀ u, u < ((t0 :: ts)[k]).cols.length → (togC (t0 :: ts) R)[atN (t0 :: ts) k + u]? = ((((t0 :: ts)[k]).cols)[u]?).map fun c => ⟨c.name, togF (t0 :: ts) R k u⟩ := fun u hu => by
      have := allF_get (togF (t0 :: ts) R) (t0 :: ts) 0 k u _ htk hu
      rwa [Nat.zero_add] at this
    have hcel : ∀ u, togF (t0 :: ts) R k u = R.map fun r => cellT (t0 :: ts)[k] u (r.getD k 0) := fun u => by
      unfold togF
      rw [List.getD_eq_getElem?_getD (l := t0 :: ts), htk]; rfl
    generalize (t0 :: ts)[k] = t at *
    generalize hnx : atN (t0 :: ts) (k + 1) = nx at *
    generalize atN (t0 :: ts) k = a0 at *
    have hcl := colRows_len t.cols
    have hvr := (validB_rows hvt)
    have hc64 := validB_cols hvt
    (refine gGo ?_; intros)
    refine rowAt_of (by simpa using hg) ?_
    conv => whnf
    (refine gGo ?_; intros)
    refine W.loopG (fun z st => ∃ q : Nat, q ≤ t.cols.length ∧ z = t.cols.length - q ∧ st = ⟨[(1, .sl (rowRows R) false), (4, .bp 4 0), (5, .bp 5 0), (22, .sl (tblRows (t0 :: ts)) false), (23, .int .i64 (tblRows (t0 :: ts)).length), (6, .int .i64 k), (7, .bp 7 0), (24, .int .i64 k), (30, .sl (colRows t.cols) false), (31, .int .i64 (colRows t.cols).length), (32, .int .i64 q)], [(4, [.rows 3 [[.int .i64 0, .str [], .nils]] none]), (5, [.rows 3 [[.int .i64 t0.id, .str t0.name, .osl 93 0 0 (colRows ((togC (t0 :: ts) R).take (a0 + q))).length (colRows ((togC (t0 :: ts) R).take (a0 + q))).length]] none]), (93, [.rows 2 (colRows ((togC (t0 :: ts) R).take (a0 + q))) (some [])]), (7, [.rows 3 [t.row] none])], [4, 5, 93, 7]⟩)
      t.cols.length _ ⟨0, by omega, by omega, rfl⟩ ⟨[(4, 4), (5, 5), (93, 93), (7, 7)], [], [], .mq (.ci 4 (.ci 5 (.ci 93 (.ci 7 .nil))))⟩ ?_
    rintro z st ⟨q, hq, rfl, rfl⟩
    (refine gGo ?_; intros)
    refine boolRes_split (fun hb => ?_) (fun hb => ?_) <;> conv => whnf
    · have hql : q < t.cols.length := by omega
      have hgq := colRows_get hql
      have hcu := hcg q hql
      rw [List.getElem?_eq_getElem hql, hcel] at hcu
      simp only [Option.map_some] at hcu
      have hcn := (hvr.2 _ (List.getElem_mem hql))
      have hdt := cellD_T hql
      have hcc := cellRows_len (t.cols[q]).cells
      have hsn : (togC (t0 :: ts) R).take (a0 + (q + 1)) = (togC (t0 :: ts) R).take (a0 + q) ++ [⟨(t.cols[q]).name, R.map fun r => cellT t q (r.getD k 0)⟩] := by
        obtain ⟨h1, h2⟩ := List.getElem?_eq_some_iff.1 hcu
        rw [show a0 + (q + 1) = (a0 + q) + 1 by omega, List.take_succ_eq_append_getElem h1, h2]
      have hCt : ((togC (t0 :: ts) R).take (a0 + q)).length ≤ 100000 := by rw [List.length_take]; omega
      generalize (togC (t0 :: ts) R).take (a0 + q) = C0 at *
      generalize t.cols[q] = cu at *
      have hC0 := colRows_len C0
      clear hcu
      (refine gGo ?_; intros)
      refine rowAt_of (by simpa using hgq) ?_
      conv => whnf
      (refine gGo ?_; intros)
      refine W.ownCell 10 0 1 94 2 rfl rfl rfl rfl rfl ?_
      refine W.loopG (fun z st => ∃ j : Nat, j ≤ R.length ∧ z = R.length - j ∧ st = ⟨[(1, .sl (rowRows R) false), (4, .bp 4 0), (5, .bp 5 0), (22, .sl (tblRows (t0 :: ts)) false), (23, .int .i64 (tblRows (t0 :: ts)).length), (6, .int .i64 k), (7, .bp 7 0), (24, .int .i64 k), (30, .sl (colRows t.cols) false), (31, .int .i64 (colRows t.cols).length), (9, .bp 9 0), (10, .bp 10 0), (32, .int .i64 q), (39, .sl (rowRows R) false), (40, .int .i64 (rowRows R).length), (41, .int .i64 j)], [(4, [.rows 3 [[.int .i64 0, .str [], .nils]] none]), (5, [.rows 3 [[.int .i64 t0.id, .str t0.name, .osl 93 0 0 (colRows (C0)).length (colRows (C0)).length]] none]), (93, [.rows 2 (colRows (C0)) (some [])]), (7, [.rows 3 [t.row] none]), (9, [.rows 2 [cu.row] none]), (10, [.rows 2 [[.str cu.name, .osl 94 0 0 (cellRows ((R.take j).map fun r => cellT t q (r.getD k 0))).length (cellRows ((R.take j).map fun r => cellT t q (r.getD k 0))).length]] none]), (94, [.rows 2 (cellRows ((R.take j).map fun r => cellT t q (r.getD k 0))) (some [])])], [4, 5, 93, 7, 9, 10, 94]⟩)
        R.length _ ⟨0, by omega, by omega, rfl⟩ ⟨[(4, 4), (5, 5), (93, 93), (7, 7), (9, 9), (10, 10), (94, 94)], [], [], .mq (.ci 4 (.ci 5 (.ci 93 (.ci 7 (.ci 9 (.ci 10 (.ci 94 .nil)))))))⟩ ?_
      rintro z st ⟨j, hj, rfl, rfl⟩
      have hjn := cellRows_len ((R.take j).map fun r => cellT t q (r.getD k 0))
      rw [List.length_map, List.length_take] at hjn
      (refine gGo ?_; intros)
      refine boolRes_split (fun hb => ?_) (fun hb => ?_) <;> conv => whnf
      · have hjl : j < R.length := by omega
        have hgj := rowRows_get hjl
        have hmj := hmk _ (List.getElem_mem hjl)
        have hsj : cellRows ((R.take (j + 1)).map fun r => cellT t q (r.getD k 0)) = cellRows ((R.take j).map fun r => cellT t q (r.getD k 0)) ++ [(cellT t q ((R[j]).getD k 0)).row] := by
          rw [List.take_succ_eq_append_getElem hjl, List.map_append]
          unfold cellRows
          rw [List.map_append]; rfl
        generalize R[j] = x at *
        have hxn := natRows_len x
        have hxg : (natRows x)[k]? = some [.int .i64 ((x.getD k 0 : Nat) : Int)] := by
          have hk1 : k < x.length := hmj.1
          have e : x.getD k 0 = x[k] := by rw [List.getD_eq_getElem?_getD, List.getElem?_eq_getElem hk1]; rfl
          rw [natRows_get hk1, e]
        have hcx : (cellRows cu.cells)[x.getD k 0]? = some (cellT t q (x.getD k 0)).row := by
          rw [cellRows_get (by omega)]
          have := hdt (x.getD k 0)
          unfold cellD at this
          rw [← this, List.getD_eq_getElem?_getD (l := cu.cells), List.getElem?_eq_getElem (by omega)]; rfl
        generalize cellT t q (x.getD k 0) = ce at *
        have hmj2 := hmj.2
        generalize x.getD k 0 = xk at *
        generalize (cellRows ((R.take j).map fun r => cellT t q (r.getD k 0))) = W0 at *
        (refine gGo ?_; intros)
        refine rowAt_of (by simpa using hgj) ?_
        conv => whnf
        (refine gGo ?_; intros)
        refine rowAt_of (by simpa using hxg) ?_
        conv => whnf
        (refine gGo ?_; intros)
        refine rowAt_of (by simpa using hcx) ?_
        conv => whnf
        (refine gGo ?_; intros)
        refine ⟨⟨rowsSz_cons rfl rowsSz_nil, rfl⟩, fitsN (n := W0.length + 1) (b := 24) (by omega) (by omega), .inl ⟨rfl, rfl, ?_⟩⟩
        conv => whnf
        (refine gGo ?_; intros)
        refine ⟨_, _, ?_, ⟨j + 1, by omega, rfl, rfl⟩, [(4, 4), (5, 5), (93, 93), (7, 7), (9, 9), (10, 10), (94, 94)], [], [], .mq (.ci 4 (.ci 5 (.ci 93 (.ci 7 (.ci 9 (.cons 10 rfl rfl (.refl _) (by rw [hsj, List.length_append]; rfl) (.cons 94 rfl rfl (.refl _) (by rw [hsj]; rfl) .nil)))))))⟩
        omega
      · have hje : j = R.length := by omega
        rw [hje, List.take_length]
        refine gA ?_
        refine gD rfl ?_
        refine gG ?_
        conv => whnf
        generalize (R.map fun r => cellT t q (r.getD k 0)) = CE at *
        have hCE := cellRows_len CE
        refine W.leG (mp := [(4, 4), (5, 5), (93, 93), (7, 7), (10, 10)]) (bo := [94]) (st' := ⟨[(1, .sl (rowRows R) false), (4, .bp 4 0), (5, .bp 5 0), (22, .sl (tblRows (t0 :: ts)) false), (23, .int .i64 (tblRows (t0 :: ts)).length), (6, .int .i64 k), (7, .bp 7 0), (24, .int .i64 k), (30, .sl (colRows t.cols) false), (31, .int .i64 (colRows t.cols).length), (10, .bp 10 0), (32, .int .i64 q)], [(4, [.rows 3 [[.int .i64 0, .str [], .nils]] none]), (5, [.rows 3 [[.int .i64 t0.id, .str t0.name, .osl 93 0 0 (colRows (C0)).length (colRows (C0)).length]] none]), (93, [.rows 2 (colRows (C0)) (some [])]), (7, [.rows 3 [t.row] none]), (10, [.rows 2 [[.str cu.name, .sl (cellRows CE) false]] none])], [4, 5, 93, 7, 10]⟩)
          (LeG.mq (.ci 4 (.ci 5 (.ci 93 (.ci 7 (.cons 10 (b1 := .rows 2 [[.str cu.name, .sl (cellRows CE) false]] none) rfl rfl (.rows _ _ _ (by repeat' (first | exact trivial | exact ⟨Lent.refl _, rfl⟩ | exact ⟨Lent.norm _, rfl⟩ | exact ⟨Lent.whole rfl rfl (by first | rfl | exact List.length_append.symm | exact hlenR | simp) rfl (by first | exact .inl rfl | exact .inr rfl), rfl⟩ | apply And.intro))) rfl .nil)))))) ?_
        (refine gGo ?_; intros)
        refine ⟨⟨rowsSz_cons rfl rowsSz_nil, rfl⟩, fitsN (n := (colRows C0).length + 1) (b := 40) (by omega) (by omega), .inl ⟨rfl, rfl, ?_⟩⟩
        conv => whnf
        (refine gGo ?_; intros)
        refine ⟨_, _, ?_, ⟨q + 1, by omega, rfl, rfl⟩, [(4, 4), (5, 5), (93, 93), (7, 7)], [], [], .mq (.ci 4 (.cons 5 rfl rfl (.refl _) (by rw [hsn, colRows_snoc, List.length_append]; rfl) (.cons 93 rfl rfl (.refl _) (by rw [hsn, colRows_snoc]; rfl) (.ci 7 .nil))))⟩
        omega
    · have hqe : q = t.cols.length := by omega
      rw [hqe, ← hsu]
      (refine gGo ?_; intros)
      refine ⟨_, _, ?_, ⟨k + 1, by omega, rfl, rfl⟩, [(4, 4), (5, 5), (93, 93)], [], [], .mq (.ci 4 (.cons 5 rfl rfl (.refl _) (by rw [hnx]; rfl) (.cons 93 rfl rfl (.refl _) (by rw [hnx]; rfl) .nil)))⟩
      omega
  · have hke : k = (t0 :: ts).length := by omega
    rw [hke, ← hCl, List.take_length]
    refine gA ?_
    refine gD rfl ?_
    refine gG ?_
    conv => whnf
    refine W.leG (mp := [(4, 4), (5, 5)]) (bo := [93]) (st' := ⟨[(4, .bp 4 0), (5, .bp 5 0)], [(4, [.rows 3 [[.int .i64 0, .str [], .nils]] none]), (5, [.rows 3 [[.int .i64 t0.id, .str t0.name, .sl (colRows (togC (t0 :: ts) R)) false]] none])], [4, 5]⟩)
      (LeG.mq (.ci 4 (.cons 5 (b1 := .rows 3 [[.int .i64 t0.id, .str t0.name, .sl (colRows (togC (t0 :: ts) R)) false]] none) rfl rfl (.rows _ _ _ (by repeat' (first | exact trivial | exact ⟨Lent.refl _, rfl⟩ | exact ⟨Lent.norm _, rfl⟩ | exact ⟨Lent.whole rfl rfl (by first | rfl | exact List.length_append.symm | exact hlenR | simp) rfl (by first | exact .inl rfl | exact .inr rfl), rfl⟩ | apply And.intro))) rfl .nil))) ?_
    (refine gGo ?_; intros)
    (refine gM ?_; conv => whnf)
    exact ret0 rfl rfl rfl
end Go.Sx.Sp
namespace Go.Sx.Sp
open Go Go.Sx Go.Proofs
attribute [local irreducible] GoodW famL
set_option maxHeartbeats 16000000 in
theorem path31_spec (l : List Table) (p : Pth) : Spec Tryz.prog 16 [.sl (tblRows l) false, .agg p.row] [] (.tup [.agg (pathJ l p).1.row, .int .i64 (pathJ l p).2]) [] := by
  have sp1 := valid31_spec l p
  by_cases h : validE l p = 0
  · rw [h] at sp1
    have h4 := (valid_path h).2.1
    have spT := tables31_spec l p (by omega)
    have sp2 := rows52_spec h
    have hml := tabsM_len l p
    have hmem : ∀ x ∈ rowsL l p, x.length = p.steps.length + 1 ∧ ∀ i, i ≤ p.steps.length → x.getD i 0 < rowsN (tabN l p i) := fun x hx => by
      obtain ⟨g1, g2⟩ := rowsL_mem hx
      exact ⟨g1, fun i hi => g2.lt i (by omega)⟩
    have htab : ∀ i, i ≤ p.steps.length → (tabsM l p)[i]? = some (tabN l p i) := fun i hi => tabsM_get l p hi
    have hval : ∀ i, i ≤ p.steps.length → validB (tabN l p i) = true := fun i hi => tabN_ok h hi
    have hvt : ∀ t ∈ tabsM l p, validB t = true := fun t ht => by
      obtain ⟨i, hi, rfl⟩ := List.getElem_of_mem ht
      have h1 := htab i (by omega)
      rw [List.getElem?_eq_getElem hi] at h1
      rw [Option.some.inj h1]
      exact hval i (by omega)
    have hm2 : ∀ r ∈ rowsL l p, (tabsM l p).length ≤ r.length ∧ ∀ (i : Nat) t, (tabsM l p)[i]? = some t → r.getD i 0 < rowsN t := fun r hr => by
      obtain ⟨g1, g2⟩ := hmem r hr
      refine ⟨by omega, fun i t hi => ?_⟩
      have hlt := (List.getElem?_eq_some_iff.1 hi).1
      have h1 := htab i (by omega)
      rw [hi] at h1
      rw [Option.some.inj h1]
      exact g2 i (by omega)
    have hJ : pathJ l p = if atN (tabsM l p) (tabsM l p).length ≤ 64 then (if (rowsL l p).length ≤ 4096 then (togT (tabsM l p) (rowsL l p), 0) else (Table.zero, 3)) else (Table.zero, 3) := by
      unfold pathJ planE
      rw [if_pos h, hml]
      by_cases a : (rowsL l p).length ≤ 4096
      · simp [a]
      · simp [a]
    obtain ⟨t0, ts, hts⟩ : ∃ t0 ts, tabsM l p = t0 :: ts := ⟨_, _, rfl⟩
    have spG := fun hR => together_spec t0 ts (rowsL l p) (by rw [← hts]; omega) hR (by rw [← hts]; exact hvt) (by rw [← hts]; exact hm2)
    rw [← hts] at spG
    have hcs : ∀ t ∈ tabsM l p, t.cols.length ≤ 64 := fun t ht => validB_cols (hvt t ht)
    clear hts
    obtain ⟨TS, hTS⟩ : ∃ TS, TS = tabsM l p := ⟨_, rfl⟩
    rw [← hTS] at spG spT hJ hcs hml
    have htl := tblRows_len TS
    have hat : ∀ k, k ≤ TS.length → atN TS k ≤ k * 64 := fun k => by
      induction k with
      | zero => intro _; simp [atN]
      | succ k ih =>
        intro h2
        have h3 : TS[k]? = some TS[k] := List.getElem?_eq_getElem (by omega)
        rw [atN_succ h3]
        have := ih (by omega)
        have := hcs _ (List.getElem_mem (show k < TS.length by omega))
        omega
    rw [hJ]
    clear hJ
    refine gEn env Tryz.func16 fun Γ hN hK hML => ?_
    (refine gGo ?_; intros)
    (refine gPC (sp1) ?_; conv => whnf)
    (refine gGo ?_; intros)
    (refine gPC (spT) ?_; conv => whnf)
    (refine gGs ?_; intros)
    refine W.leG (mp := [(3, 3), (4, 4)]) (bo := []) (st' := ⟨[(0, .sl (tblRows l) false), (3, .bp 3 0), (4, .bp 4 0), (7, .sl (tblRows TS) false)], [(3, [.rows 2 [p.row] none]), (4, [.rows 3 [[.int .i64 0, .str [], .nils]] none])], [3, 4]⟩)
      (LeG.mq (.ci 3 (.ci 4 .nil))) ?_
    (refine gGo ?_; intros)
    refine W.leG (mp := [(3, 3), (4, 4)]) (bo := []) (st' := ⟨[(0, .sl (tblRows l) false), (3, .bp 3 0), (4, .bp 4 0), (7, .sl (tblRows TS) false), (8, .int .i64 (atN TS 0 : Nat)), (23, .sl (tblRows TS) false), (24, .int .i64 (tblRows TS).length), (25, .int .i64 (0 : Nat))], [(3, [.rows 2 [p.row] none]), (4, [.rows 3 [[.int .i64 0, .str [], .nils]] none])], [3, 4]⟩)
      (LeG.mq (.ci 3 (.ci 4 .nil))) ?_
    refine W.loopG (fun m st => ∃ k : Nat, k ≤ TS.length ∧ m = TS.length - k ∧ st = ⟨[(0, .sl (tblRows l) false), (3, .bp 3 0), (4, .bp 4 0), (7, .sl (tblRows TS) false), (8, .int .i64 (atN TS k : Nat)), (23, .sl (tblRows TS) false), (24, .int .i64 (tblRows TS).length), (25, .int .i64 k)], [(3, [.rows 2 [p.row] none]), (4, [.rows 3 [[.int .i64 0, .str [], .nils]] none])], [3, 4]⟩)
      TS.length _ ⟨0, by omega, by omega, rfl⟩ ⟨[(3, 3), (4, 4)], [], [], .mq (.ci 3 (.ci 4 .nil))⟩ ?_
    rintro m st ⟨k, hk, rfl, rfl⟩
    have hak := hat k hk
    (refine gGo ?_; intros)
    refine boolRes_split (fun hb => ?_) (fun hb => ?_) <;> conv => whnf
    · have hlt : k < TS.length := by omega
      have hg := tblRows_get hlt
      have hsu := atN_succ (List.getElem?_eq_getElem hlt)
      have hc := hcs _ (List.getElem_mem hlt)
      generalize TS[k] = t at *
      have hcl := colRows_len t.cols
      (refine gGo ?_; intros)
      refine rowAt_of (r := t.row) (by simpa using hg) ?_
      conv => whnf
      (refine gGo ?_; intros)
      refine ⟨_, _, ?_, ⟨k + 1, by omega, rfl, rfl⟩, [(3, 3), (4, 4)], [], [], LeG.mk' rfl rfl rfl (by rw [hsu, Int.natCast_add, ← hcl]; exact (by repeat' (first | exact trivial | exact ⟨_, .refl _, rfl⟩ | apply And.intro))) (.ci 3 (.ci 4 .nil)) rfl rfl (by rw [hK]; rfl)⟩
      omega
    · have hke : k = TS.length := by omega
      rw [hke]
      have hae := hat TS.length (Nat.le_refl _)
      generalize atN TS TS.length = A at *
      by_cases hA : A ≤ 64
      · rw [if_pos hA]
        by_cases hR : (rowsL l p).length ≤ 4096
        · rw [if_pos hR]
          rw [if_pos hR, decide_eq_true hR] at sp2
          have spG := spG hR
          generalize togT TS (rowsL l p) = TT at *
          generalize rowsL l p = RL at *
          (refine gGo ?_; intros)
          (refine gPC (sp2) ?_; conv => whnf)
          (refine gGo ?_; intros)
          (refine gPC (spG) ?_; conv => whnf)
          (refine gGo ?_; intros)
          (refine gM ?_; conv => whnf)
          exact retH rfl (.norm _) rfl rfl rfl trivial
        · rw [if_neg hR]
          rw [if_neg hR, decide_eq_false hR] at sp2
          (refine gGo ?_; intros)
          (refine gPC (sp2) ?_; conv => whnf)
          (refine gGo ?_; intros)
          (refine gM ?_; conv => whnf)
          exact retH rfl (.norm _) rfl rfl rfl trivial
      · rw [if_neg hA]
        (refine gGo ?_; intros)
        (refine gM ?_; conv => whnf)
        exact retH rfl (.norm _) rfl rfl rfl trivial
  · have hJ : pathJ l p = (Table.zero, validE l p) := by
      unfold pathJ planE
      rw [if_neg h, if_neg h]
    rw [hJ]
    generalize validE l p = e at *
    refine gEn env Tryz.func16 fun Γ hN hK hML => ?_
    (refine gGo ?_; intros)
    (refine gPC (sp1) ?_; conv => whnf)
    (refine gGo ?_; intros)
    (refine gM ?_; conv => whnf)
    exact retH rfl (.norm _) rfl rfl rfl trivial
end Go.Sx.Sp
