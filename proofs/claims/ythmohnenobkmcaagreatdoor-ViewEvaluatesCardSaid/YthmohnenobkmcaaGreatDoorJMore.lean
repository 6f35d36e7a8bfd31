/- Views as the document tells them, which tables contain which rows, and the law. -/
import Derived.Test.YthmohnenobkmcaaGreatDoorJTen
import Derived.Test.YthmohnenobkmcaaGreatDoorJNine
import Derived.Test.YthmohnenobkmcaaGreatDoorJSeven
import Derived.Test.YthmohnenobkmcaaGreatDoorSxFour
set_option linter.unusedVariables false
set_option linter.unusedSimpArgs false
namespace Go.Sx.Sp
open Go Go.Sx Go.Proofs
attribute [local irreducible] GoodW famL
theorem any_drop {α : Type} (p : α → Bool) (l : List α) {k : Nat} (h : k < l.length) : (l.drop k).any p = (p l[k] || (l.drop (k + 1)).any p) := by
  rw [List.drop_eq_getElem_cons h, List.any_cons]
set_option maxHeartbeats 16000000 in
theorem valid34_spec (l : List Table) (v : Vw) : Spec Tryz.prog 28 [.sl (tblRows l) false, .agg v.row] [] (.int .i64 (validV l v)) [] := by
  have sp1 := valid31_spec l v.path
  have hfl := fltRows_len v.fs
  have hrl := rfRows_len v.cs
  unfold validV
  refine gEn env Tryz.func28 fun Γ hN hK hML => ?_
  refine gA ?_
  (refine gE env hN (by kernel_rfl) ?_; conv => whnf)
  (refine gGs ?_; intros)
  refine W.leG (mp := []) (bo := [3]) (st' := ⟨[(0, .sl (tblRows l) false), (3, .ro v.row 0)], [], []⟩)
    (LeG.mk' rfl rfl rfl ⟨⟨_, .refl _, rfl⟩, ⟨_, .bp 3 0 4 v.row none rfl rfl (by simp [Vw.row]) (.inr rfl), rfl⟩, trivial⟩ .nil rfl rfl (by rw [hK]; rfl)) ?_
  by_cases h : validE l v.path = 0
  · rw [if_pos h]
    rw [h] at sp1
    have hl1 : v.path.steps.length ≤ 100 := by have := (valid_path h).2.1; omega
    by_cases h8 : v.fs.length ≤ 8 ∧ v.cs.length ≤ 64
    · rw [if_pos h8]
      (refine gGo ?_; intros)
      (refine gPC (sp1) ?_; conv => whnf)
      (refine gGo ?_; intros)
      refine W.leG (mp := []) (bo := []) (st' := ⟨[(0, .sl (tblRows l) false), (3, .ro v.row 0), (30, .sl (fltRows v.fs) false), (31, .int .i64 (fltRows v.fs).length), (32, .int .i64 (0 : Nat))], [], []⟩)
        (LeG.mq .nil) ?_
      refine W.loopG (fun m st => ∃ k : Nat, k ≤ v.fs.length ∧ v.fs.any (nhF l v.path) = (v.fs.drop k).any (nhF l v.path) ∧ m = v.fs.length - k ∧ st = ⟨[(0, .sl (tblRows l) false), (3, .ro v.row 0), (30, .sl (fltRows v.fs) false), (31, .int .i64 (fltRows v.fs).length), (32, .int .i64 (k : Nat))], [], []⟩)
        v.fs.length _ ⟨0, by omega, rfl, by omega, rfl⟩ ⟨[], [], [], .mq .nil⟩ ?_
      rintro m st ⟨k, hk, hany, rfl, rfl⟩
      (refine gGo ?_; intros)
      refine boolRes_split (fun hb => ?_) (fun hb => ?_) <;> conv => whnf
      · have hlt : k < v.fs.length := by omega
        have hg := fltRows_get hlt
        have sp2 := has34_spec l v.path v.fs[k].r hl1
        rw [any_drop _ _ hlt] at hany
        have hnh : nhF l v.path v.fs[k] = !hasB l v.path v.fs[k].r := rfl
        rw [hnh] at hany
        clear hnh
        generalize v.fs[k] = f at *
        (refine gGo ?_; intros)
        refine rowAt_of (by simpa using hg) ?_
        conv => whnf
        (refine gGo ?_; intros)
        (refine gPC (sp2) ?_; conv => whnf)
        cases hb : hasB l v.path f.r with
        | true =>
          rw [hb] at hany
          conv => whnf
          (refine gGo ?_; intros)
          refine ⟨_, _, ?_, ⟨k + 1, by omega, by simpa using hany, rfl, rfl⟩, ⟨[], [], [], .mq .nil⟩⟩
          omega
        | false =>
          rw [hb] at hany
          rw [if_neg (fun hh => by rw [hh.1] at hany; simp at hany)]
          conv => whnf
          (refine gGr ?_; intros)
          exact ret0 rfl rfl rfl
      · have hke : k = v.fs.length := by omega
        rw [hke, List.drop_length] at hany
        have hA : v.fs.any (nhF l v.path) = false := hany
        (refine gGo ?_; intros)
        refine W.leG (mp := []) (bo := []) (st' := ⟨[(0, .sl (tblRows l) false), (3, .ro v.row 0), (45, .sl (rfRows v.cs) false), (46, .int .i64 (rfRows v.cs).length), (47, .int .i64 (0 : Nat))], [], []⟩)
          (LeG.mq .nil) ?_
        refine W.loopG (fun m st => ∃ k : Nat, k ≤ v.cs.length ∧ v.cs.any (nhR l v.path) = (v.cs.drop k).any (nhR l v.path) ∧ m = v.cs.length - k ∧ st = ⟨[(0, .sl (tblRows l) false), (3, .ro v.row 0), (45, .sl (rfRows v.cs) false), (46, .int .i64 (rfRows v.cs).length), (47, .int .i64 (k : Nat))], [], []⟩)
          v.cs.length _ ⟨0, by omega, rfl, by omega, rfl⟩ ⟨[], [], [], .mq .nil⟩ ?_
        rintro m st ⟨k, hk, hany, rfl, rfl⟩
        (refine gGo ?_; intros)
        refine boolRes_split (fun hb => ?_) (fun hb => ?_) <;> conv => whnf
        · have hlt : k < v.cs.length := by omega
          have hg := rfRows_get hlt
          have sp2 := has34_spec l v.path v.cs[k] hl1
          rw [any_drop _ _ hlt] at hany
          have hnh : nhR l v.path v.cs[k] = !hasB l v.path v.cs[k] := rfl
          rw [hnh] at hany
          clear hnh
          generalize v.cs[k] = r at *
          (refine gGo ?_; intros)
          refine rowAt_of (by simpa using hg) ?_
          conv => whnf
          (refine gGo ?_; intros)
          (refine gPC (sp2) ?_; conv => whnf)
          cases hb : hasB l v.path r with
          | true =>
            rw [hb] at hany
            conv => whnf
            (refine gGo ?_; intros)
            refine ⟨_, _, ?_, ⟨k + 1, by omega, by simpa using hany, rfl, rfl⟩, ⟨[], [], [], .mq .nil⟩⟩
            omega
          | false =>
            rw [hb] at hany
            rw [if_neg (fun hh => by rw [hh.2] at hany; simp at hany)]
            conv => whnf
            (refine gGr ?_; intros)
            exact ret0 rfl rfl rfl
        · have hke : k = v.cs.length := by omega
          rw [hke, List.drop_length] at hany
          have hR : v.cs.any (nhR l v.path) = false := hany
          rw [if_pos ⟨hA, hR⟩]
          (refine gGo ?_; intros)
          refine W.leG (mp := []) (bo := []) (st' := ⟨[(0, .sl (tblRows l) false), (3, .ro v.row 0), (59, .sl (fltRows v.fs) false), (60, .int .i64 (fltRows v.fs).length), (61, .int .i64 (0 : Nat))], [], []⟩)
            (LeG.mq .nil) ?_
          refine W.loopG (fun m st => ∃ k : Nat, k ≤ v.fs.length ∧ v.fs.any npB = (v.fs.drop k).any npB ∧ m = v.fs.length - k ∧ st = ⟨[(0, .sl (tblRows l) false), (3, .ro v.row 0), (59, .sl (fltRows v.fs) false), (60, .int .i64 (fltRows v.fs).length), (61, .int .i64 (k : Nat))], [], []⟩)
            v.fs.length _ ⟨0, by omega, rfl, by omega, rfl⟩ ⟨[], [], [], .mq .nil⟩ ?_
          rintro m st ⟨k, hk, hany, rfl, rfl⟩
          (refine gGo ?_; intros)
          refine boolRes_split (fun hb => ?_) (fun hb => ?_) <;> conv => whnf
          · have hlt : k < v.fs.length := by omega
            have hg := fltRows_get hlt
            rw [any_drop _ _ hlt] at hany
            generalize v.fs[k] = f at *
            by_cases c1 : f.kind < 1 ∨ 4 < f.kind ∨ 1024 < f.text.length
            · have hnp : npB f = true := by
                unfold npB properB
                split
                · simp; omega
                · split
                  · have : f.text ≠ [] := fun e => by rw [e] at c1; simp at c1; omega
                    simpa using this
                  · rfl
              rw [hnp] at hany
              rw [if_neg (fun hh => by rw [hh] at hany; simp at hany)]
              by_cases d1 : f.kind < 1
              · (refine gGo ?_; intros)
                refine rowAt_of (by simpa using hg) ?_
                conv => whnf
                (refine gGr ?_; intros)
                exact ret0 rfl rfl rfl
              by_cases d2 : 4 < f.kind
              · (refine gGo ?_; intros)
                refine rowAt_of (by simpa using hg) ?_
                conv => whnf
                (refine gGr ?_; intros)
                exact ret0 rfl rfl rfl
              · (refine gGo ?_; intros)
                refine rowAt_of (by simpa using hg) ?_
                conv => whnf
                (refine gGr ?_; intros)
                exact ret0 rfl rfl rfl
            by_cases c2 : 3 ≤ f.kind ∧ f.text ≠ []
            · have hnp : npB f = true := by
                unfold npB properB
                rw [if_neg (by omega), if_pos (by omega)]
                simpa using c2.2
              have c3 := c2.2
              rw [hnp] at hany
              rw [if_neg (fun hh => by rw [hh] at hany; simp at hany)]
              (refine gGo ?_; intros)
              refine rowAt_of (by simpa using hg) ?_
              conv => whnf
              (refine gGr ?_; intros)
              exact ret0 rfl rfl rfl
            · have hnp : npB f = false := by
                unfold npB properB
                by_cases d : f.kind = 1 ∨ f.kind = 2
                · rw [if_pos d]; simp; omega
                · have : f.text = [] := Classical.byContradiction fun e => c2 ⟨by omega, e⟩
                  rw [if_neg d, if_pos (by omega)]
                  simpa using this
              rw [hnp, Bool.false_or] at hany
              by_cases d : 3 ≤ f.kind
              · have c3 : f.text = [] := Classical.byContradiction fun e => c2 ⟨d, e⟩
                (refine gGo ?_; intros)
                refine rowAt_of (by simpa using hg) ?_
                conv => whnf
                (refine gGo ?_; intros)
                refine gL (fun hh => hh c3) ?_
                conv => whnf
                (refine gGo ?_; intros)
                refine ⟨_, _, ?_, ⟨k + 1, by omega, hany, rfl, rfl⟩, ⟨[], [], [], .mq .nil⟩⟩
                omega
              · (refine gGo ?_; intros)
                refine rowAt_of (by simpa using hg) ?_
                conv => whnf
                (refine gGo ?_; intros)
                refine ⟨_, _, ?_, ⟨k + 1, by omega, hany, rfl, rfl⟩, ⟨[], [], [], .mq .nil⟩⟩
                omega
          · have hke : k = v.fs.length := by omega
            rw [hke, List.drop_length] at hany
            have hB : v.fs.any npB = false := hany
            rw [if_pos hB]
            (refine gGr ?_; intros)
            exact ret0 rfl rfl rfl
    · rw [if_neg h8]
      by_cases h9 : v.fs.length ≤ 8
      · (refine gGo ?_; intros)
        (refine gPC (sp1) ?_; conv => whnf)
        (refine gGr ?_; intros)
        exact ret0 rfl rfl rfl
      · (refine gGo ?_; intros)
        (refine gPC (sp1) ?_; conv => whnf)
        (refine gGr ?_; intros)
        exact ret0 rfl rfl rfl
  · rw [if_neg h]
    generalize validE l v.path = e at *
    (refine gGo ?_; intros)
    (refine gPC (sp1) ?_; conv => whnf)
    (refine gGr ?_; intros)
    exact ret0 rfl rfl rfl
end Go.Sx.Sp
namespace Go.Sx.Sp
open Go Go.Sx Go.Proofs
attribute [local irreducible] GoodW famL
def cellV (l : List Table) (p : Pth) (r : Rf) (row : List Nat) : Cell := (colC l r).cells.getD (row.getD (plcI p r.t) 0) cell0
def allK (l : List Table) (v : Vw) (k : Nat) (row : List Nat) : Bool := (v.fs.take k).all fun f => keepsB f (cellV l v.path f.r row)
theorem keptR_filter (l : List Table) (v : Vw) : ∀ k, k ≤ v.fs.length → keptR l v k = (rowsL l v.path).filter (allK l v k)
  | 0, _ => by
    show rowsL l v.path = _
    exact (List.filter_eq_self.2 fun _ _ => rfl).symm
  | k + 1, h => by
    have ih := keptR_filter l v k (by omega)
    rw [keptR_succ l v (show k < v.fs.length by omega), ih]
    unfold keepR
    rw [List.filter_filter]
    refine List.filter_congr fun row _ => ?_
    unfold allK dropB
    rw [List.take_succ_eq_append_getElem (show k < v.fs.length by omega), List.all_append, Bool.not_not, Bool.and_comm]
    simp only [List.all_cons, List.all_nil, Bool.and_true]
    rfl
theorem allK_succ (l : List Table) (v : Vw) {k : Nat} (h : k < v.fs.length) (row : List Nat) : allK l v (k + 1) row = (allK l v k row && keepsB v.fs[k] (cellV l v.path v.fs[k].r row)) := by
  unfold allK
  rw [List.take_succ_eq_append_getElem h, List.all_append]
  simp
structure RowOK (l : List Table) (p : Pth) (row : List Nat) : Prop where
  len : row.length = p.steps.length + 1
  lt : ∀ i, i ≤ p.steps.length → row.getD i 0 < rowsN (tabN l p i)
set_option maxHeartbeats 4000000 in
theorem cell34_spec {l : List Table} {p : Pth} (hv : validE l p = 0) {r : Rf} (hr : hasB l p r = true) {row : List Nat} (hrow : RowOK l p row) : Spec Tryz.prog 59 [.sl (tblRows (tabsM l p)) false, .agg p.row, .agg r.row, .sl (natRows row) false] [] (.agg (cellV l p r row).row) [] := by
  obtain ⟨i, hx1, hx2, hx3, hx4, hx5, hx6, hx7, hx8, hx9⟩ := has_facts hv hr
  have h4 := (valid_path hv).2.1
  have sp := place_spec p p.steps.length r.t (Nat.le_refl _) (by omega)
  have hz : placeZ p p.steps.length r.t = (i : Int) := by
    unfold placeZ
    rw [show befT p p.steps.length = tabsI p from rfl, hx1]
  rw [hz] at sp
  have hsl := stpRows_len p.steps
  rw [← hsl] at sp
  have htg : (tblRows (tabsM l p))[i]? = some (tabN l p i).row := by unfold tblRows; rw [List.getElem?_map, tabsM_get l p hx3]; rfl
  have hml := tabsM_len l p
  have htl := tblRows_len (tabsM l p)
  have hcg : (colRows (tabN l p i).cols)[r.c.toNat]? = some (colC l r).row := by rw [colRows_get hx6, hx8]
  have hcl := colRows_len (tabN l p i).cols
  have hrl := natRows_len row
  have hi1 : i < row.length := by have := hrow.len; omega
  have hxg : (natRows row)[i]? = some [.int .i64 ((row.getD i 0 : Nat) : Int)] := by
    have e : row.getD i 0 = row[i] := by rw [List.getD_eq_getElem?_getD, List.getElem?_eq_getElem hi1]; rfl
    rw [natRows_get hi1, e]
  have hlt := hrow.lt i hx3
  have hce := cellRows_len (colC l r).cells
  have hcx : (cellRows (colC l r).cells)[row.getD i 0]? = some (cellV l p r row).row := by
    unfold cellV
    rw [hx2, cellRows_get (by omega), List.getD_eq_getElem?_getD (l := (colC l r).cells), List.getElem?_eq_getElem (by omega)]; rfl
  generalize cellV l p r row = ce at *
  generalize row.getD i 0 = y at *
  generalize colC l r = c at *
  generalize tabN l p i = tn at *
  refine gEn env Tryz.func59 fun Γ hN hK hML => ?_
  (refine gGo ?_; intros)
  (refine gPC (sp) ?_; conv => whnf)
  (refine gGo ?_; intros)
  refine rowAt_of (r := tn.row) (by simpa using htg) ?_
  conv => whnf
  (refine gGo ?_; intros)
  refine rowAt_of (r := c.row) (by simpa using hcg) ?_
  conv => whnf
  (refine gGo ?_; intros)
  refine rowAt_of (by simpa using hxg) ?_
  conv => whnf
  (refine gGo ?_; intros)
  refine rowAt_of (r := ce.row) (by simpa using hcx) ?_
  conv => whnf
  (refine gGo ?_; intros)
  (refine gM ?_; conv => whnf)
  exact retH rfl (.norm _) rfl rfl rfl trivial
def shC (l : List Table) (v : Vw) (K : List (List Nat)) : List Column := v.cs.map fun r => ⟨(colC l r).name, K.map (cellV l v.path r)⟩
theorem shC_len (l : List Table) (v : Vw) (K : List (List Nat)) : (shC l v K).length = v.cs.length := by simp [shC]
def pcC (l : List Table) (v : Vw) (C : List Column) (row : List Nat) : Nat → List Column
  | 0 => C
  | q + 1 => addC (pcC l v C row q) q (cellV l v.path (v.cs.getD q ⟨0, 0⟩) row)
theorem pcC_len (l : List Table) (v : Vw) (C : List Column) (row : List Nat) : ∀ q, (pcC l v C row q).length = C.length
  | 0 => rfl
  | q + 1 => by show (addC _ _ _).length = _; rw [addC_len, pcC_len l v C row q]
theorem pcC_get (l : List Table) (v : Vw) (C : List Column) (row : List Nat) : ∀ q i, (pcC l v C row q)[i]? = (C[i]?).map fun c => if i < q then { c with cells := c.cells ++ [cellV l v.path (v.cs.getD i ⟨0, 0⟩) row] } else c
  | 0, i => by
    show C[i]? = _
    cases C[i]? <;> simp
  | q + 1, i => by
    have ih := pcC_get l v C row q i
    show (addC _ _ _)[i]? = _
    unfold addC
    rw [List.getElem?_modify, ih]
    cases C[i]? with
    | none => split <;> rfl
    | some c =>
      by_cases e : q = i
      · subst e
        simp
      · simp only [if_neg e, Option.map_some]
        by_cases h : i < q
        · rw [if_pos h, if_pos (by omega)]; rfl
        · rw [if_neg h, if_neg (by omega)]; rfl
theorem pcC_all (l : List Table) (v : Vw) (K : List (List Nat)) (row : List Nat) : pcC l v (shC l v K) row v.cs.length = shC l v (K ++ [row]) := by
  refine List.ext_getElem? fun i => ?_
  rw [pcC_get]
  unfold shC
  rw [List.getElem?_map, List.getElem?_map]
  cases h : v.cs[i]? with
  | none => rfl
  | some r =>
    obtain ⟨h1, h2⟩ := List.getElem?_eq_some_iff.1 h
    simp only [Option.map_some, List.map_append, List.map_cons, List.map_nil]
    rw [if_pos h1, List.getD_eq_getElem?_getD, h]; rfl
theorem shC_bare (l : List Table) (v : Vw) : shC l v [] = bare (v.cs.map (colC l)) := by
  unfold shC bare
  rw [List.map_map]; rfl
end Go.Sx.Sp
namespace Go.Sx.Sp
open Go Go.Sx Go.Proofs
attribute [local irreducible] GoodW famL
theorem evalV_sh (l : List Table) (v : Vw) : shownT l v = ⟨(tabOf l v.path.start).id, (tabOf l v.path.start).name, shC l v ((rowsL l v.path).filter (allK l v v.fs.length))⟩ := by
  rw [← keptR_filter l v _ (Nat.le_refl _)]
  rfl
theorem shC_cells (l : List Table) (v : Vw) (K : List (List Nat)) : ∀ c ∈ shC l v K, c.cells.length = K.length := fun c hc => by
  unfold shC at hc
  obtain ⟨r, _, rfl⟩ := List.mem_map.1 hc
  simp
set_option maxHeartbeats 32000000 in
theorem eval34_spec (l : List Table) (v : Vw) : Spec Tryz.prog 24 [.sl (tblRows l) false, .agg v.row] [] (.tup [.agg (evalV l v).1.row, .int .i64 (evalV l v).2]) [] := by
  have sp1 := valid34_spec l v
  unfold evalV keptE
  by_cases h0 : validV l v = 0
  · rw [if_pos h0]
    rw [h0] at sp1
    obtain ⟨hv, hf8, hc64, hfs, hcs⟩ := validV_facts h0
    have h4 := (valid_path hv).2.1
    have sp2 := rows31_spec l v.path
    rw [planE_rows] at sp2
    by_cases hp : planE l v.path = 0
    · rw [if_pos hp, evalV_sh]
      rw [if_pos hp] at sp2
      have hR4 := (planE_ok hp).2
      have sp3 := tables31_spec l v.path (by omega)
      have hfl := fltRows_len v.fs
      have hrl := rfRows_len v.cs
      have hmem : ∀ row ∈ rowsL l v.path, RowOK l v.path row := fun row hr => by
        obtain ⟨g1, g2⟩ := rowsL_mem hr
        exact ⟨g1, fun i hi => g2.lt i (by omega)⟩
      generalize rowsL l v.path = L at *
      have hLl := rowRows_len L
      have hg0 : (tblRows (tabsM l v.path))[0]? = some (tabOf l v.path.start).row := by
        unfold tblRows; rw [List.getElem?_map, tabsM_get l v.path (Nat.zero_le _)]; rfl
      have hml := tabsM_len l v.path
      obtain ⟨TS, hTS⟩ : ∃ TS, TS = tabsM l v.path := ⟨_, rfl⟩
      rw [← hTS] at sp3 hg0 hml
      have htl := tblRows_len TS
      generalize tabOf l v.path.start = t0 at *
      refine gEn env Tryz.func24 fun Γ hN hK hML => ?_
      refine gA ?_
      (refine gE env hN (by kernel_rfl) ?_; conv => whnf)
      (refine gGs ?_; intros)
      refine W.leG (mp := [(4, 4)]) (bo := [3]) (st' := ⟨[(0, .sl (tblRows l) false), (3, .ro v.row 0), (4, .bp 4 0)], [(4, [.rows 3 [[.int .i64 0, .str [], .nils]] none])], [4]⟩)
        (LeG.mk' rfl rfl rfl ⟨⟨_, .refl _, rfl⟩, ⟨_, .bp 3 0 4 v.row none rfl rfl (by simp [Vw.row]) (.inr rfl), rfl⟩, ⟨_, .refl _, rfl⟩, trivial⟩ (.ci 4 .nil) rfl rfl (by rw [hK]; rfl)) ?_
      (refine gGo ?_; intros)
      (refine gPC (sp1) ?_; conv => whnf)
      (refine gGo ?_; intros)
      (refine gPC (sp2) ?_; conv => whnf)
      (refine gGo ?_; intros)
      (refine gPC (sp3) ?_; conv => whnf)
      (refine gGo ?_; intros)
      refine rowAt_of (r := t0.row) (by simpa using hg0) ?_
      conv => whnf
      (refine gGo ?_; intros)
      refine rowAt_of (r := t0.row) (by simpa using hg0) ?_
      conv => whnf
      (refine gGo ?_; intros)
      refine W.ownCell 10 0 2 901 2 rfl rfl rfl rfl rfl ?_
      refine W.leG (mp := [(4, 4), (10, 10), (901, 901)]) (bo := []) (st' := ⟨[(0, .sl (tblRows l) false), (3, .ro v.row 0), (4, .bp 4 0), (7, .sl (rowRows L) false), (9, .sl (tblRows TS) false), (10, .bp 10 0), (54, .sl (rfRows v.cs) false), (55, .int .i64 (rfRows v.cs).length), (56, .int .i64 (0 : Nat))], [(4, [.rows 3 [[.int .i64 0, .str [], .nils]] none]), (10, [.rows 3 [[.int .i64 t0.id, .str t0.name, .osl 901 0 0 (nilW ((v.cs.take 0).map (colC l))).length (nilW ((v.cs.take 0).map (colC l))).length]] none]), (901, [.rows 2 (nilW ((v.cs.take 0).map (colC l))) (some [])])], [4, 10, 901]⟩)
        (LeG.mq (.ci 4 (.ci 10 (.ci 901 .nil)))) ?_
      refine W.loopG (fun m st => ∃ q : Nat, q ≤ v.cs.length ∧ m = v.cs.length - q ∧ st = ⟨[(0, .sl (tblRows l) false), (3, .ro v.row 0), (4, .bp 4 0), (7, .sl (rowRows L) false), (9, .sl (tblRows TS) false), (10, .bp 10 0), (54, .sl (rfRows v.cs) false), (55, .int .i64 (rfRows v.cs).length), (56, .int .i64 q)], [(4, [.rows 3 [[.int .i64 0, .str [], .nils]] none]), (10, [.rows 3 [[.int .i64 t0.id, .str t0.name, .osl 901 0 0 (nilW ((v.cs.take q).map (colC l))).length (nilW ((v.cs.take q).map (colC l))).length]] none]), (901, [.rows 2 (nilW ((v.cs.take q).map (colC l))) (some [])])], [4, 10, 901]⟩)
        v.cs.length _ ⟨0, by omega, by omega, rfl⟩ ⟨[(4, 4), (10, 10), (901, 901)], [], [], .mq (.ci 4 (.ci 10 (.ci 901 .nil)))⟩ ?_
      rintro m st ⟨q, hq, rfl, rfl⟩
      have hnl := nilW_len ((v.cs.take q).map (colC l))
      rw [List.length_map, List.length_take] at hnl
      (refine gGo ?_; intros)
      refine boolRes_split (fun hb => ?_) (fun hb => ?_) <;> conv => whnf
      · have hql : q < v.cs.length := by omega
        have hgq := rfRows_get hql
        have spG := get3_spec l v.cs[q].t v.cs[q].c
        rw [show (getC l v.cs[q].t v.cs[q].c).getD Column.zero = colC l v.cs[q] from rfl] at spG
        have hsn : nilW ((v.cs.take (q + 1)).map (colC l)) = nilW ((v.cs.take q).map (colC l)) ++ [[.str (colC l v.cs[q]).name, .nils]] := by
          rw [List.take_succ_eq_append_getElem hql, List.map_append]
          unfold nilW
          rw [List.map_append]; rfl
        generalize (getC l v.cs[q].t v.cs[q].c).isSome = bb at *
        generalize colC l v.cs[q] = c at *
        generalize nilW ((v.cs.take q).map (colC l)) = N0 at *
        generalize v.cs[q] = r at *
        (refine gGo ?_; intros)
        refine rowAt_of (by simpa using hgq) ?_
        conv => whnf
        (refine gGo ?_; intros)
        (refine gPC (spG) ?_; conv => whnf)
        (refine gGo ?_; intros)
        refine ⟨⟨rowsSz_cons rfl rowsSz_nil, rfl⟩, fitsN (n := N0.length + 1) (b := 40) (by omega) (by omega), .inl ⟨rfl, rfl, ?_⟩⟩
        conv => whnf
        (refine gGo ?_; intros)
        refine ⟨_, _, ?_, ⟨q + 1, by omega, rfl, rfl⟩, [(4, 4), (10, 10), (901, 901)], [], [], .mq (.ci 4 (.cons 10 rfl rfl (.refl _) (by rw [hsn, List.length_append]; rfl) (.cons 901 rfl rfl (.refl _) (by rw [hsn]; rfl) .nil)))⟩
        omega
      · have hqe : q = v.cs.length := by omega
        rw [hqe, List.take_length]
        clear hnl
        obtain ⟨CS, hCS⟩ : ∃ CS, CS = v.cs.map (colC l) := ⟨_, rfl⟩
        have hsb : shC l v [] = bare CS := by rw [hCS]; exact shC_bare l v
        rw [← hCS]
        have hCl : CS.length = v.cs.length := by rw [hCS, List.length_map]
        have hnl := nilW_len CS
        have hcw := colWs_len (bare CS)
        have hbl : (bare CS).length = CS.length := by simp [bare]
        (refine gGo ?_; intros)
        refine W.ref (Ref.reserve 902 (CS.length + 2) 2 rfl) ?_
        refine W.leG (mp := [(4, 4), (10, 10), (901, 901), (902, 902)]) (bo := []) (st' := ⟨[(0, .sl (tblRows l) false), (3, .ro v.row 0), (4, .bp 4 0), (7, .sl (rowRows L) false), (9, .sl (tblRows TS) false), (10, .bp 10 0), (75, .sl (rowRows L) false), (76, .int .i64 (rowRows L).length), (77, .int .i64 (0 : Nat))], [(4, [.rows 3 [[.int .i64 0, .str [], .nils]] none]), (10, [.rows 3 [[.int .i64 t0.id, .str t0.name, .osl 901 0 0 (nilW (CS)).length (nilW (CS)).length]] none]), (901, [.rows 2 (nilW (CS)) (some [])]), (902, famL (CS.length + 2) fun _ => .rows 2 [] (some []))], [4, 10, 901, 902]⟩)
          (LeG.mq (.ci 4 (.ci 10 (.ci 901 (.fam 902 rfl rfl (famL_famB fun _ _ => rfl) .nil))))) ?_
        refine W.ref (Ref.recell 901 (colWs (bare CS)) (some [902]) rfl (by omega) (colWs_recell rfl) (fun l hl q hq => by cases hl; simp at hq; subst hq; rfl)) ?_
        rw [colF_bare, show (nilW CS).length = (colWs (bare CS)).length by omega, ← hsb]
        clear hcw hnl hCl hbl hsb hCS
        refine W.loopG (fun m st => ∃ j : Nat, j ≤ L.length ∧ m = L.length - j ∧ st = ⟨[(0, .sl (tblRows l) false), (3, .ro v.row 0), (4, .bp 4 0), (7, .sl (rowRows L) false), (9, .sl (tblRows TS) false), (10, .bp 10 0), (75, .sl (rowRows L) false), (76, .int .i64 (rowRows L).length), (77, .int .i64 j)], [(4, [.rows 3 [[.int .i64 0, .str [], .nils]] none]), (10, [.rows 3 [[.int .i64 t0.id, .str t0.name, .osl 901 0 0 (colWs (shC l v ((L.take j).filter (allK l v v.fs.length)))).length (colWs (shC l v ((L.take j).filter (allK l v v.fs.length)))).length]] none]), (901, [.rows 2 (colWs (shC l v ((L.take j).filter (allK l v v.fs.length)))) (some [902])]), (902, famL ((shC l v ((L.take j).filter (allK l v v.fs.length))).length + 2) (colF (shC l v ((L.take j).filter (allK l v v.fs.length)))))], [4, 10, 901, 902]⟩)
          L.length _ ⟨0, by omega, by omega, rfl⟩ ⟨[(4, 4), (10, 10), (901, 901), (902, 902)], [], [], .mq (.ci 4 (.ci 10 (.ci 901 (.fam 902 rfl (rfl) (colF_fam _ _) .nil))))⟩ ?_
        rintro m st ⟨j, hj, rfl, rfl⟩
        (refine gGo ?_; intros)
        refine boolRes_split (fun hb => ?_) (fun hb => ?_) <;> conv => whnf
        · have hlt : j < L.length := by omega
          have hgj := rowRows_get hlt
          have hrow := hmem _ (List.getElem_mem hlt)
          have hft : (L.take (j + 1)).filter (allK l v v.fs.length) = if allK l v v.fs.length L[j] = true then (L.take j).filter (allK l v v.fs.length) ++ [L[j]] else (L.take j).filter (allK l v v.fs.length) := by
            rw [List.take_succ_eq_append_getElem hlt, List.filter_append]
            by_cases hk : allK l v v.fs.length L[j] = true <;> simp [hk]
          have hFl : ((L.take j).filter (allK l v v.fs.length)).length ≤ 4096 := by
            have := List.length_filter_le (allK l v v.fs.length) (L.take j)
            rw [List.length_take] at this
            omega
          generalize (L.take j).filter (allK l v v.fs.length) = K at *
          generalize L[j] = row at *
          have hnr := natRows_len row
          (refine gGo ?_; intros)
          refine rowAt_of (by simpa using hgj) ?_
          conv => whnf
          (refine gGo ?_; intros)
          refine W.leG (mp := [(4, 4), (10, 10), (901, 901), (902, 902)]) (bo := []) (st' := ⟨[(0, .sl (tblRows l) false), (3, .ro v.row 0), (4, .bp 4 0), (7, .sl (rowRows L) false), (9, .sl (tblRows TS) false), (10, .bp 10 0), (75, .sl (rowRows L) false), (76, .int .i64 (rowRows L).length), (16, .sl (natRows row) false), (77, .int .i64 j), (82, .sl (fltRows v.fs) false), (83, .int .i64 (fltRows v.fs).length), (17, .bool (allK l v 0 row)), (84, .int .i64 (0 : Nat))], [(4, [.rows 3 [[.int .i64 0, .str [], .nils]] none]), (10, [.rows 3 [[.int .i64 t0.id, .str t0.name, .osl 901 0 0 (colWs (shC l v K)).length (colWs (shC l v K)).length]] none]), (901, [.rows 2 (colWs (shC l v K)) (some [902])]), (902, famL ((shC l v K).length + 2) (colF (shC l v K)))], [4, 10, 901, 902]⟩)
            (LeG.mq (.ci 4 (.ci 10 (.ci 901 (.fam 902 rfl (rfl) (colF_fam _ _) .nil))))) ?_
          refine W.loopG (fun m st => ∃ k : Nat, k ≤ v.fs.length ∧ m = v.fs.length - k ∧ st = ⟨[(0, .sl (tblRows l) false), (3, .ro v.row 0), (4, .bp 4 0), (7, .sl (rowRows L) false), (9, .sl (tblRows TS) false), (10, .bp 10 0), (75, .sl (rowRows L) false), (76, .int .i64 (rowRows L).length), (16, .sl (natRows row) false), (77, .int .i64 j), (82, .sl (fltRows v.fs) false), (83, .int .i64 (fltRows v.fs).length), (17, .bool (allK l v k row)), (84, .int .i64 k)], [(4, [.rows 3 [[.int .i64 0, .str [], .nils]] none]), (10, [.rows 3 [[.int .i64 t0.id, .str t0.name, .osl 901 0 0 (colWs (shC l v K)).length (colWs (shC l v K)).length]] none]), (901, [.rows 2 (colWs (shC l v K)) (some [902])]), (902, famL ((shC l v K).length + 2) (colF (shC l v K)))], [4, 10, 901, 902]⟩)
            v.fs.length _ ⟨0, by omega, by omega, rfl⟩ ⟨[(4, 4), (10, 10), (901, 901), (902, 902)], [], [], .mq (.ci 4 (.ci 10 (.ci 901 (.fam 902 rfl (rfl) (colF_fam _ _) .nil))))⟩ ?_
          rintro m st ⟨k, hk, rfl, rfl⟩
          (refine gGo ?_; intros)
          refine boolRes_split (fun hb => ?_) (fun hb => ?_) <;> conv => whnf
          · have hkl : k < v.fs.length := by omega
            have hgk := fltRows_get hkl
            have spC := cell34_spec hv (hfs _ (List.getElem_mem hkl)).1 hrow
            rw [← hTS] at spC
            have hsk := allK_succ l v hkl row
            have spK := keeps34_spec v.fs[k] (cellV l v.path v.fs[k].r row)
            generalize allK l v k row = ok at *
            generalize cellV l v.path v.fs[k].r row = ce at *
            generalize v.fs[k] = f at *
            cases ok with
            | false =>
              rw [Bool.false_and] at hsk
              (refine gGo ?_; intros)
              refine rowAt_of (by simpa using hgk) ?_
              conv => whnf
              (refine gGo ?_; intros)
              refine ⟨_, _, ?_, ⟨k + 1, by omega, rfl, rfl⟩, [(4, 4), (10, 10), (901, 901), (902, 902)], [], [], LeG.mk' rfl rfl rfl (by rw [hsk]; exact (by repeat' (first | exact trivial | exact ⟨_, .refl _, rfl⟩ | apply And.intro))) (.ci 4 (.ci 10 (.ci 901 (.fam 902 rfl (rfl) (colF_fam _ _) .nil)))) rfl rfl (by rw [hK]; rfl)⟩
              omega
            | true =>
              rw [Bool.true_and] at hsk
              (refine gGo ?_; intros)
              refine rowAt_of (by simpa using hgk) ?_
              conv => whnf
              (refine gGo ?_; intros)
              (refine gPC (spC) ?_; conv => whnf)
              (refine gGo ?_; intros)
              (refine gPC (spK) ?_; conv => whnf)
              (refine gGo ?_; intros)
              refine ⟨_, _, ?_, ⟨k + 1, by omega, rfl, rfl⟩, [(4, 4), (10, 10), (901, 901), (902, 902)], [], [], LeG.mk' rfl rfl rfl (by rw [hsk]; exact (by repeat' (first | exact trivial | exact ⟨_, .refl _, rfl⟩ | apply And.intro))) (.ci 4 (.ci 10 (.ci 901 (.fam 902 rfl (rfl) (colF_fam _ _) .nil)))) rfl rfl (by rw [hK]; rfl)⟩
              omega
          · have hke : k = v.fs.length := by omega
            rw [hke]
            cases hall : allK l v v.fs.length row with
            | false =>
              rw [if_neg (by rw [hall]; decide)] at hft
              (refine gGo ?_; intros)
              refine ⟨_, _, ?_, ⟨j + 1, by omega, rfl, rfl⟩, [(4, 4), (10, 10), (901, 901), (902, 902)], [], [], .mq (by rw [hft]; exact (.ci 4 (.ci 10 (.ci 901 (.fam 902 rfl (rfl) (colF_fam _ _) .nil)))))⟩
              omega
            | true =>
              rw [if_pos hall] at hft
              have hp0 : pcC l v (shC l v K) row 0 = shC l v K := rfl
              have hpa := pcC_all l v K row
              have hpl := fun q => pcC_len l v (shC l v K) row q
              have hsl := shC_len l v K
              have hsm : ∀ q, q ≤ v.cs.length → ∀ hh : q < (pcC l v (shC l v K) row q).length, ((pcC l v (shC l v K) row q)[q]'hh).cells.length ≤ 4096 := fun q hq hh => by
                have h1 := pcC_get l v (shC l v K) row q q
                rw [List.getElem?_eq_getElem hh] at h1
                have hh2 : q < (shC l v K).length := by rw [hpl] at hh; exact hh
                rw [List.getElem?_eq_getElem hh2] at h1
                simp only [Option.map_some, Nat.lt_irrefl, if_false] at h1
                rw [Option.some.inj h1]
                have h3 := shC_cells l v K _ (List.getElem_mem hh2)
                omega
              (refine gGo ?_; intros)
              refine W.leG (mp := [(4, 4), (10, 10), (901, 901), (902, 902)]) (bo := []) (st' := ⟨[(0, .sl (tblRows l) false), (3, .ro v.row 0), (4, .bp 4 0), (7, .sl (rowRows L) false), (9, .sl (tblRows TS) false), (10, .bp 10 0), (75, .sl (rowRows L) false), (76, .int .i64 (rowRows L).length), (16, .sl (natRows row) false), (77, .int .i64 j), (104, .sl (rfRows v.cs) false), (105, .int .i64 (rfRows v.cs).length), (106, .int .i64 (0 : Nat))], [(4, [.rows 3 [[.int .i64 0, .str [], .nils]] none]), (10, [.rows 3 [[.int .i64 t0.id, .str t0.name, .osl 901 0 0 (colWs (pcC l v (shC l v K) row 0)).length (colWs (pcC l v (shC l v K) row 0)).length]] none]), (901, [.rows 2 (colWs (pcC l v (shC l v K) row 0)) (some [902])]), (902, famL ((pcC l v (shC l v K) row 0).length + 2) (colF (pcC l v (shC l v K) row 0)))], [4, 10, 901, 902]⟩)
                (LeG.mq (.ci 4 (.ci 10 (.ci 901 (.fam 902 rfl (rfl) (colF_fam _ _) .nil))))) ?_
              refine W.loopG (fun m st => ∃ q : Nat, q ≤ v.cs.length ∧ m = v.cs.length - q ∧ st = ⟨[(0, .sl (tblRows l) false), (3, .ro v.row 0), (4, .bp 4 0), (7, .sl (rowRows L) false), (9, .sl (tblRows TS) false), (10, .bp 10 0), (75, .sl (rowRows L) false), (76, .int .i64 (rowRows L).length), (16, .sl (natRows row) false), (77, .int .i64 j), (104, .sl (rfRows v.cs) false), (105, .int .i64 (rfRows v.cs).length), (106, .int .i64 q)], [(4, [.rows 3 [[.int .i64 0, .str [], .nils]] none]), (10, [.rows 3 [[.int .i64 t0.id, .str t0.name, .osl 901 0 0 (colWs (pcC l v (shC l v K) row q)).length (colWs (pcC l v (shC l v K) row q)).length]] none]), (901, [.rows 2 (colWs (pcC l v (shC l v K) row q)) (some [902])]), (902, famL ((pcC l v (shC l v K) row q).length + 2) (colF (pcC l v (shC l v K) row q)))], [4, 10, 901, 902]⟩)
                v.cs.length _ ⟨0, by omega, by omega, rfl⟩ ⟨[(4, 4), (10, 10), (901, 901), (902, 902)], [], [], .mq (.ci 4 (.ci 10 (.ci 901 (.fam 902 rfl (rfl) (colF_fam _ _) .nil))))⟩ ?_
              rintro m st ⟨q, hq, rfl, rfl⟩
              (refine gGo ?_; intros)
              refine boolRes_split (fun hb => ?_) (fun hb => ?_) <;> conv => whnf
              · have hql : q < v.cs.length := by omega
                have hgq := rfRows_get hql
                have spC := cell34_spec hv (hcs _ (List.getElem_mem hql)) hrow
                rw [← hTS] at spC
                have hsn : pcC l v (shC l v K) row (q + 1) = addC (pcC l v (shC l v K) row q) q (cellV l v.path v.cs[q] row) := by
                  show addC _ _ _ = _
                  rw [List.getD_eq_getElem?_getD, List.getElem?_eq_getElem hql]; rfl
                have hCl := hpl q
                rw [hsl] at hCl
                have hsm1 := hsm q hq
                generalize pcC l v (shC l v K) row q = C at *
                generalize cellV l v.path v.cs[q] row = ce at *
                generalize v.cs[q] = r at *
                have hal : q < C.length := by omega
                have hsm2 := hsm1 hal
                have hgw := colWs_get hal
                have hset := fun n (hn : n = (C[q]).cells.length + 1) => addC_ws (c := ce) hal hn
                have hff := addC_f (c := ce) hal
                have hfk : (famL (C.length + 2) (colF C))[q]? = some (.rows 2 (cellRows C[q].cells) (some [])) := by rw [famL_get (by omega), colF_get hal]
                have hckl := cellRows_len C[q].cells
                have hwl := colWs_len C
                have hwl2 : (colWs (addC C q ce)).length = (colWs C).length := by rw [colWs_len, addC_len, colWs_len]
                unfold colW at hgw
                clear hsm1 hsm
                generalize C[q] = ck at *
                (refine gGo ?_; intros)
                refine rowAt_of (by simpa using hgq) ?_
                conv => whnf
                (refine gGo ?_; intros)
                refine rowAt_of (by simpa using hgw) ?_
                conv => whnf
                (refine gGo ?_; intros)
                (refine gPC (spC) ?_; conv => whnf)
                (refine gGo ?_; intros)
                generalize hO : oslRows _ 902 q = O
                have hO2 : O = some (2, cellRows ck.cells, some []) := by rw [← hO]; exact oslRows_of hfk
                subst hO2
                clear hO
                conv => whnf
                refine ⟨⟨rowsSz_cons rfl rowsSz_nil, by omega⟩, fitsN (n := ck.cells.length + 1) (b := 24) (by omega) (by omega), .inl ⟨rfl, rfl, ?_⟩⟩
                conv => whnf
                split
                · rename_i heq
                  have h9 := congrArg List.length heq
                  change (famL (C.length + 2) (colF C)).length = 1 at h9
                  rw [famL_len] at h9
                  omega
                rename_i k0 l0 i0 hnp
                clear hnp
                conv => whnf
                (refine gGo ?_; intros)
                refine rowAt_of (by simpa using hgw) ?_
                conv => whnf
                (refine gGs ?_; intros)
                refine W.ref (Ref.reks 901 (rows1 := colWs (addC C k0 ce)) [902] rfl (by rw [← hset _ rfl, show (0 + ((k0 : Nat) : Int).toNat) = k0 by omega]; rfl) (fun i r q v hi hq => ?_) (fun q hq => ?_)) ?_
                · exact colWs_sites hi hq
                · simp at hq; subst hq; rfl
                (refine gGo ?_; intros)
                refine ⟨_, _, ?_, ⟨k0 + 1, by omega, rfl, rfl⟩, [(4, 4), (10, 10), (901, 901), (902, 902)], [], [], LeG.mq (.ci 4 (.cons 10 rfl rfl (.refl _) (by rw [hsn, hwl2]; rfl) (.cons 901 rfl rfl (.refl _) (by rw [hsn]; rfl) (.fam 902 rfl ?_ (colF_fam _ _) .nil))))⟩
                · omega
                · rw [hsn, addC_len]
                  show _ = (famL _ _).set _ _
                  rw [famL_set]
                  refine famL_congr fun i _ => ?_
                  rw [hff]
                  by_cases hik : i = k0
                  · rw [if_pos hik, if_pos hik]
                    unfold cellRows
                    rw [List.map_append]
                    rfl
                  · rw [if_neg hik, if_neg hik]
              · have hqe : q = v.cs.length := by omega
                rw [hqe, hpa]
                (refine gGo ?_; intros)
                refine ⟨_, _, ?_, ⟨j + 1, by omega, rfl, rfl⟩, [(4, 4), (10, 10), (901, 901), (902, 902)], [], [], .mq (by rw [hft]; exact (.ci 4 (.ci 10 (.ci 901 (.fam 902 rfl (rfl) (colF_fam _ _) .nil)))))⟩
                omega
        · have hje : j = L.length := by omega
          rw [hje, List.take_length]
          refine gA ?_
          refine gD rfl ?_
          refine gG ?_
          conv => whnf
          have hrw : ∀ C, Table.row ⟨t0.id, t0.name, C⟩ = [.int .i64 t0.id, .str t0.name, .sl (colRows C) false] := fun C => rfl
          rw [hrw]
          generalize shC l v (L.filter (allK l v v.fs.length)) = C at *
          have hcl2 : (colWs C).length = (colRows C).length := by rw [colWs_len, colRows_len]
          refine W.leG (mp := [(4, 4), (10, 10), (901, 901)]) (bo := [902]) (st' := ⟨[(4, .bp 4 0), (10, .bp 10 0)], [(4, [.rows 3 [[.int .i64 0, .str [], .nils]] none]), (10, [.rows 3 [[.int .i64 t0.id, .str t0.name, .osl 901 0 0 (colWs C).length (colWs C).length]] none]), (901, [.rows 2 (colRows C) (some [])])], [4, 10, 901]⟩)
            (LeG.mq (.ci 4 (.ci 10 (.cons 901 (b1 := .rows 2 (colRows C) (some [])) rfl rfl (colWs_lent rfl (by omega) rfl) rfl .nil)))) ?_
          refine W.leG (mp := [(4, 4), (10, 10)]) (bo := [901]) (st' := ⟨[(4, .bp 4 0), (10, .bp 10 0)], [(4, [.rows 3 [[.int .i64 0, .str [], .nils]] none]), (10, [.rows 3 [[.int .i64 t0.id, .str t0.name, .sl (colRows C) false]] none])], [4, 10]⟩)
            (LeG.mq (.ci 4 (.cons 10 (b1 := .rows 3 [[.int .i64 t0.id, .str t0.name, .sl (colRows C) false]] none) rfl rfl (.rows _ _ _ (by repeat' (first | exact trivial | exact ⟨Lent.refl _, rfl⟩ | exact ⟨Lent.whole rfl rfl hcl2 rfl (.inl rfl), rfl⟩ | apply And.intro))) rfl .nil))) ?_
          (refine gGo ?_; intros)
          (refine gM ?_; conv => whnf)
          exact ret0 rfl rfl rfl
    · rw [if_neg hp] at sp2
      rw [if_neg hp]
      generalize planE l v.path = e at *
      refine gEn env Tryz.func24 fun Γ hN hK hML => ?_
      (refine gGo ?_; intros)
      (refine gPC (sp1) ?_; conv => whnf)
      (refine gGo ?_; intros)
      (refine gPC (sp2) ?_; conv => whnf)
      (refine gGo ?_; intros)
      (refine gM ?_; conv => whnf)
      exact retH rfl (.norm _) rfl rfl rfl trivial
  · rw [if_neg h0, if_neg h0]
    generalize validV l v = e at *
    refine gEn env Tryz.func24 fun Γ hN hK hML => ?_
    (refine gGo ?_; intros)
    (refine gPC (sp1) ?_; conv => whnf)
    (refine gGo ?_; intros)
    (refine gM ?_; conv => whnf)
    exact retH rfl (.norm _) rfl rfl rfl trivial
end Go.Sx.Sp
namespace Go.Sx.Sp
open Go Go.Sx Go.Proofs
attribute [local irreducible] GoodW famL
theorem countV_rows (l : List Table) (v : Vw) : (rowsN (evalV l v).1 : Int) = (countV l v).1 ∧ (evalV l v).2 = (countV l v).2 := by
  unfold evalV countV
  by_cases h : keptE l v = 0
  · rw [if_pos h, if_pos h]
    refine ⟨?_, rfl⟩
    unfold shownT
    cases hc : v.cs with
    | nil => simp [rowsN]
    | cons r cs => simp [rowsN, shownC]
  · rw [if_neg h, if_neg h]
    exact ⟨rfl, rfl⟩
theorem count34_spec (l : List Table) (v : Vw) : Spec Tryz.prog 26 [.sl (tblRows l) false, .agg v.row] [] (.tup [.int .i64 (countV l v).1, .int .i64 (countV l v).2]) [] := by
  have sp := eval34_spec l v
  have hc := countV_rows l v
  rw [← hc.1, ← hc.2]
  have sp2 := rows3_spec (evalV l v).1
  generalize (evalV l v).1 = t at *
  generalize (evalV l v).2 = e at *
  refine gEn env Tryz.func26 fun Γ hN hK hML => ?_
  (refine gGo ?_; intros)
  (refine gPC (sp) ?_; conv => whnf)
  (refine gGo ?_; intros)
  (refine gPC (sp2) ?_; conv => whnf)
  (refine gGr ?_; intros)
  exact ret0 rfl rfl rfl
end Go.Sx.Sp
namespace Go.Sx.Sp
open Go Go.Sx Go.Proofs
attribute [local irreducible] GoodW famL
def RectT (t : Table) : Prop := ∀ c ∈ t.cols, c.cells.length = rowsN t
def agB (t : Table) (i : Nat) (rows : Table) (k n : Nat) : Bool := (List.range n).all fun c => (cellT rows c k).null || fitC (cellT rows c k) (cellT t c i)
theorem agB_succ (t : Table) (i : Nat) (rows : Table) (k n : Nat) : agB t i rows k (n + 1) = (agB t i rows k n && ((cellT rows n k).null || fitC (cellT rows n k) (cellT t n i))) := by
  unfold agB
  rw [List.range_succ, List.all_append]
  simp
theorem agB_false {t : Table} {i : Nat} {rows : Table} {k n m : Nat} (h : agB t i rows k (n + 1) = false) (hm : n < m) : agB t i rows k m = false := by
  unfold agB at h ⊢
  rw [List.all_eq_false] at h ⊢
  obtain ⟨c, hc, h2⟩ := h
  exact ⟨c, List.mem_range.2 (by have := List.mem_range.1 hc; omega), h2⟩
def anyB (t rows : Table) (k n : Nat) : Bool := (List.range n).any fun i => agB t i rows k rows.cols.length
theorem anyB_succ (t rows : Table) (k n : Nat) : anyB t rows k (n + 1) = (anyB t rows k n || agB t n rows k rows.cols.length) := by
  unfold anyB
  rw [List.range_succ, List.any_append]
  simp
theorem anyB_true {t rows : Table} {k n m : Nat} (h : anyB t rows k n = true) (hm : n ≤ m) : anyB t rows k m = true := by
  unfold anyB at h ⊢
  rw [List.any_eq_true] at h ⊢
  obtain ⟨c, hc, h2⟩ := h
  exact ⟨c, List.mem_range.2 (by have := List.mem_range.1 hc; omega), h2⟩
def contB (t rows : Table) : Bool := decide (t.cols.length = rows.cols.length) && (List.range (rowsN rows)).all fun k => anyB t rows k (rowsN t)
theorem contB_false {t rows : Table} {k : Nat} (hk : k < rowsN rows) (h : anyB t rows k (rowsN t) = false) : contB t rows = false := by
  unfold contB
  rw [Bool.and_eq_false_iff]
  right
  rw [List.all_eq_false]
  exact ⟨k, List.mem_range.2 hk, by rw [h]; decide⟩
theorem cellT_get {t : Table} (h : RectT t) {c i : Nat} (hc : c < t.cols.length) (hi : i < rowsN t) : (cellRows (t.cols[c]).cells)[i]? = some (cellT t c i).row ∧ (cellRows (t.cols[c]).cells).length = rowsN t := by
  have hl := h _ (List.getElem_mem hc)
  refine ⟨?_, by rw [cellRows_len, hl]⟩
  rw [cellRows_get (by omega)]
  unfold cellT
  rw [List.getD_eq_getElem?_getD (l := t.cols), List.getElem?_eq_getElem hc]
  simp only [Option.getD_some]
  rw [List.getD_eq_getElem?_getD, List.getElem?_eq_getElem (by omega)]; rfl
set_option maxHeartbeats 8000000 in
theorem agrees_spec {t rows : Table} (ht : RectT t) (hr : RectT rows) (hlen : t.cols.length = rows.cols.length) {i k : Nat} (hi : i < rowsN t) (hk : k < rowsN rows) : Spec Tryz.prog 55 [.agg t.row, .int .i64 i, .agg rows.row, .int .i64 k] [] (.bool (agB t i rows k rows.cols.length)) [] := by
  have hcl := colRows_len rows.cols
  have hcl2 := colRows_len t.cols
  refine gEn env Tryz.func55 fun Γ hN hK hML => ?_
  refine gA ?_
  (refine gE env hN (by kernel_rfl) ?_; conv => whnf)
  (refine gGs ?_; intros)
  refine W.leG (mp := []) (bo := [4, 6]) (st' := ⟨[(1, .int .i64 i), (3, .int .i64 k), (4, .ro t.row 0), (6, .ro rows.row 0)], [], []⟩)
    (LeG.mk' rfl rfl rfl ⟨⟨_, .refl _, rfl⟩, ⟨_, .refl _, rfl⟩, ⟨_, .bp 4 0 3 t.row none rfl rfl (by simp [Table.row]) (.inr rfl), rfl⟩, ⟨_, .bp 6 0 3 rows.row none rfl rfl (by simp [Table.row]) (.inr rfl), rfl⟩, trivial⟩ .nil rfl rfl (by rw [hK]; rfl)) ?_
  (refine gGo ?_; intros)
  refine W.leG (mp := []) (bo := []) (st' := ⟨[(1, .int .i64 i), (3, .int .i64 k), (4, .ro t.row 0), (6, .ro rows.row 0), (13, .sl (colRows rows.cols) false), (14, .int .i64 (colRows rows.cols).length), (15, .int .i64 (0 : Nat))], [], []⟩)
    (LeG.mq .nil) ?_
  refine W.loopG (fun m st => ∃ c : Nat, c ≤ rows.cols.length ∧ agB t i rows k c = true ∧ m = rows.cols.length - c ∧ st = ⟨[(1, .int .i64 i), (3, .int .i64 k), (4, .ro t.row 0), (6, .ro rows.row 0), (13, .sl (colRows rows.cols) false), (14, .int .i64 (colRows rows.cols).length), (15, .int .i64 (c : Nat))], [], []⟩)
    rows.cols.length _ ⟨0, by omega, rfl, by omega, rfl⟩ ⟨[], [], [], .mq .nil⟩ ?_
  rintro m st ⟨c, hc, hag, rfl, rfl⟩
  (refine gGo ?_; intros)
  refine boolRes_split (fun hb => ?_) (fun hb => ?_) <;> conv => whnf
  · have hlt : c < rows.cols.length := by omega
    have hlt2 : c < t.cols.length := by omega
    have hg1 := colRows_get hlt
    have hg2 := colRows_get hlt2
    obtain ⟨hx1, hx2⟩ := cellT_get hr hlt hk
    obtain ⟨hy1, hy2⟩ := cellT_get ht hlt2 hi
    have hsn := agB_succ t i rows k c
    have hfa := fun h => agB_false (t := t) (i := i) (rows := rows) (k := k) (n := c) (m := rows.cols.length) h hlt
    rw [hag, Bool.true_and] at hsn
    generalize rows.cols[c] = cr at *
    generalize t.cols[c] = ct at *
    obtain ⟨xn, xt, hx⟩ : ∃ xn xt, cellT rows c k = ⟨xn, xt⟩ := ⟨_, _, rfl⟩
    obtain ⟨yn, yt, hy⟩ : ∃ yn yt, cellT t c i = ⟨yn, yt⟩ := ⟨_, _, rfl⟩
    rw [hx] at hx1 hsn
    rw [hy] at hy1 hsn
    clear hx hy
    have hxr : Cell.row ⟨xn, xt⟩ = [.bool xn, .str xt] := rfl
    have hyr : Cell.row ⟨yn, yt⟩ = [.bool yn, .str yt] := rfl
    rw [hxr] at hx1
    rw [hyr] at hy1
    (refine gGo ?_; intros)
    refine rowAt_of (r := cr.row) (by simpa using hg1) ?_
    conv => whnf
    (refine gGo ?_; intros)
    refine rowAt_of (r := ct.row) (by simpa using hg2) ?_
    conv => whnf
    (refine gGo ?_; intros)
    refine rowAt_of (by simpa using hy1) ?_
    conv => whnf
    (refine gGo ?_; intros)
    refine rowAt_of (by simpa using hx1) ?_
    conv => whnf
    (refine gGo ?_; intros)
    cases xn with
    | true =>
      have hsn2 : agB t i rows k (c + 1) = true := by rw [hsn]; rfl
      conv => whnf
      (refine gGo ?_; intros)
      refine ⟨_, _, ?_, ⟨c + 1, by omega, hsn2, rfl, rfl⟩, ⟨[], [], [], .mq .nil⟩⟩
      omega
    | false =>
      cases yn with
      | true =>
        have hsn2 : agB t i rows k (c + 1) = false := by rw [hsn]; rfl
        rw [hfa hsn2]
        conv => whnf
        (refine gGr ?_; intros)
        exact ret0 rfl rfl rfl
      | false =>
        by_cases he : yt = xt
        · have hsn2 : agB t i rows k (c + 1) = true := by rw [hsn]; unfold fitC; simp [he]
          conv => whnf
          (refine gGo ?_; intros)
          refine rowAt_of (by simpa using hx1) ?_
          conv => whnf
          (refine gGo ?_; intros)
          refine gL (fun hh => hh he) ?_
          conv => whnf
          (refine gGo ?_; intros)
          refine ⟨_, _, ?_, ⟨c + 1, by omega, hsn2, rfl, rfl⟩, ⟨[], [], [], .mq .nil⟩⟩
          omega
        · have hsn2 : agB t i rows k (c + 1) = false := by rw [hsn]; unfold fitC; simp [Ne.symm he]
          rw [hfa hsn2]
          conv => whnf
          (refine gGo ?_; intros)
          refine rowAt_of (by simpa using hx1) ?_
          conv => whnf
          (refine gGr ?_; intros)
          exact ret0 rfl rfl rfl
  · have hce : c = rows.cols.length := by omega
    rw [hce] at hag
    rw [hag]
    (refine gGr ?_; intros)
    exact ret0 rfl rfl rfl
set_option maxHeartbeats 8000000 in
theorem contains_rows_spec {t rows : Table} (ht : RectT t) (hr : RectT rows) (hbt : rowsN t ≤ 1000000) (hbr : rowsN rows ≤ 1000000) : Spec Tryz.prog 21 [.agg t.row, .agg rows.row] [] (.bool (contB t rows)) [] := by
  have hcl := colRows_len rows.cols
  have hcl2 := colRows_len t.cols
  have sp1 := rows_spec t
  have sp2 := rows_spec rows
  refine gEn env Tryz.func21 fun Γ hN hK hML => ?_
  refine gA ?_
  (refine gE env hN (by kernel_rfl) ?_; conv => whnf)
  (refine gGs ?_; intros)
  refine W.leG (mp := []) (bo := [2, 3]) (st' := ⟨[(2, .ro t.row 0), (3, .ro rows.row 0)], [], []⟩)
    (LeG.mk' rfl rfl rfl ⟨⟨_, .bp 2 0 3 t.row none rfl rfl (by simp [Table.row]) (.inr rfl), rfl⟩, ⟨_, .bp 3 0 3 rows.row none rfl rfl (by simp [Table.row]) (.inr rfl), rfl⟩, trivial⟩ .nil rfl rfl (by rw [hK]; rfl)) ?_
  by_cases hlen : t.cols.length = rows.cols.length
  · (refine gGo ?_; intros)
    (refine gPC (sp2) ?_; conv => whnf)
    (refine gGo ?_; intros)
    refine W.leG (mp := []) (bo := []) (st' := ⟨[(2, .ro t.row 0), (3, .ro rows.row 0), (16, .int .i64 (rowsN rows : Nat)), (17, .int .i64 (0 : Nat))], [], []⟩)
      (LeG.mq .nil) ?_
    refine W.loopG (fun m st => ∃ k : Nat, k ≤ rowsN rows ∧ (∀ k', k' < k → anyB t rows k' (rowsN t) = true) ∧ m = rowsN rows - k ∧ st = ⟨[(2, .ro t.row 0), (3, .ro rows.row 0), (16, .int .i64 (rowsN rows : Nat)), (17, .int .i64 (k : Nat))], [], []⟩)
      (rowsN rows) _ ⟨0, by omega, fun k' h => by omega, by omega, rfl⟩ ⟨[], [], [], .mq .nil⟩ ?_
    rintro m st ⟨k, hk, hall, rfl, rfl⟩
    (refine gGo ?_; intros)
    refine boolRes_split (fun hb => ?_) (fun hb => ?_) <;> conv => whnf
    · have hkl : k < rowsN rows := by omega
      have hcf := contB_false (t := t) hkl
      (refine gGo ?_; intros)
      refine W.leG (mp := []) (bo := []) (st' := ⟨[(2, .ro t.row 0), (3, .ro rows.row 0), (16, .int .i64 (rowsN rows : Nat)), (17, .int .i64 (k : Nat)), (5, .int .i64 k), (6, .bool (anyB t rows k 0)), (7, .int .i64 (0 : Nat))], [], []⟩)
        (LeG.mq .nil) ?_
      refine W.loopG (fun m st => ∃ i : Nat, i ≤ rowsN t ∧ m = rowsN t - i ∧ st = ⟨[(2, .ro t.row 0), (3, .ro rows.row 0), (16, .int .i64 (rowsN rows : Nat)), (17, .int .i64 (k : Nat)), (5, .int .i64 k), (6, .bool (anyB t rows k i)), (7, .int .i64 i)], [], []⟩)
        (rowsN t) _ ⟨0, by omega, by omega, rfl⟩ ⟨[], [], [], .mq .nil⟩ ?_
      rintro m st ⟨i, hi, rfl, rfl⟩
      have hsn := anyB_succ t rows k i
      (refine gGo ?_; intros)
      by_cases hil : i < rowsN t
      · have spA := agrees_spec ht hr hlen hil hkl
        have htr := fun h => anyB_true (t := t) (rows := rows) (k := k) (n := i) (m := rowsN t) h hi
        generalize anyB t rows k i = fd at *
        generalize agB t i rows k rows.cols.length = ag at *
        cases fd with
        | true =>
          have htr := htr rfl
          (refine gGo ?_; intros)
          (refine gPC (sp1) ?_; conv => whnf)
          (refine gGo ?_; intros)
          refine ⟨_, _, ?_, ⟨k + 1, by omega, fun k' hk' => ?_, rfl, rfl⟩, ⟨[], [], [], .mq .nil⟩⟩
          · omega
          · by_cases e : k' = k
            · rw [e]; exact htr
            · exact hall k' (by omega)
        | false =>
          rw [Bool.false_or] at hsn
          (refine gGo ?_; intros)
          (refine gPC (sp1) ?_; conv => whnf)
          (refine gGo ?_; intros)
          (refine gPC (spA) ?_; conv => whnf)
          (refine gGo ?_; intros)
          refine ⟨_, _, ?_, ⟨i + 1, by omega, rfl, rfl⟩, [], [], [], LeG.mk' rfl rfl rfl (by rw [hsn]; exact (by repeat' (first | exact trivial | exact ⟨_, .refl _, rfl⟩ | apply And.intro))) .nil rfl rfl (by rw [hK]; rfl)⟩
          omega
      · have hie : i = rowsN t := by omega
        rw [hie]
        cases hfd : anyB t rows k (rowsN t) with
        | true =>
          (refine gGo ?_; intros)
          (refine gPC (sp1) ?_; conv => whnf)
          (refine gGo ?_; intros)
          refine ⟨_, _, ?_, ⟨k + 1, by omega, fun k' hk' => ?_, rfl, rfl⟩, ⟨[], [], [], .mq .nil⟩⟩
          · omega
          · by_cases e : k' = k
            · rw [e]; exact hfd
            · exact hall k' (by omega)
        | false =>
          rw [hcf hfd]
          (refine gGo ?_; intros)
          (refine gPC (sp1) ?_; conv => whnf)
          (refine gGr ?_; intros)
          exact ret0 rfl rfl rfl
    · have hke : k = rowsN rows := by omega
      have hct : contB t rows = true := by
        unfold contB
        rw [decide_eq_true hlen, Bool.true_and, List.all_eq_true]
        intro k' hk'
        exact hall k' (by have := List.mem_range.1 hk'; omega)
      rw [hct]
      (refine gGr ?_; intros)
      exact ret0 rfl rfl rfl
  · have hcf : contB t rows = false := by
      unfold contB
      rw [decide_eq_false hlen, Bool.false_and]
    rw [hcf]
    (refine gGr ?_; intros)
    exact ret0 rfl rfl rfl
end Go.Sx.Sp
namespace Go.Sx.Sp
open Go Go.Sx Go.Proofs
attribute [local irreducible] GoodW famL
def aw5 : Table := ⟨5, [], [⟨[110], [⟨false, [49]⟩, ⟨true, []⟩, ⟨false, [50]⟩]⟩]⟩
def awV : Vw := ⟨⟨5, []⟩, [⟨⟨5, 0⟩, 2, [49]⟩], [⟨5, 0⟩, ⟨5, 0⟩]⟩
def awT : Table := ⟨5, [], [⟨[110], [⟨false, [50]⟩]⟩, ⟨[110], [⟨false, [50]⟩]⟩]⟩
theorem aw_eval : evalV [aw5] awV = (awT, 0) := by kernel_rfl
theorem aw_cont : contB aw5 awT = false := by kernel_rfl
set_option maxHeartbeats 8000000 in
theorem awake34_spec : Spec Tryz.prog 12 [] [] (.bool true) [] := by
  have sp1 := evalV_spec [aw5] awV
  rw [aw_eval] at sp1
  have sp2 := rows3_spec awT
  have sp3 := contains_rows_spec (t := aw5) (rows := awT) (fun c hc => by simp [aw5] at hc; subst hc; rfl) (fun c hc => by simp [awT] at hc; subst hc; rfl) (by decide) (by decide)
  rw [aw_cont] at sp3
  refine gEn env Tryz.func12 fun Γ hN hK hML => ?_
  (refine gGo ?_; intros)
  (refine gPC (sp1) ?_; conv => whnf)
  (refine gGo ?_; intros)
  (refine gPC (sp2) ?_; conv => whnf)
  (refine gGo ?_; intros)
  (refine gPC (sp3) ?_; conv => whnf)
  (refine gGr ?_; intros)
  exact ret0 rfl rfl rfl
end Go.Sx.Sp
namespace Go.Sx.Sp
open Go Go.Sx Go.Proofs
attribute [local irreducible] GoodW famL
def refsB (t : Table) : List Rf := (List.range t.cols.length).map fun i => ⟨t.id, (i : Nat)⟩
def refsOf (ts : List Table) : List Rf := ts.flatMap refsB
theorem refsB_len (t : Table) : (refsB t).length = t.cols.length := by simp [refsB]
theorem refsOf_len : ∀ ts : List Table, (refsOf ts).length = atN ts ts.length
  | [] => rfl
  | t :: ts => by
    have ih := refsOf_len ts
    show (refsB t ++ refsOf ts).length = _
    rw [List.length_append, refsB_len, ih]
    simp [atN]
theorem refsOf_get : ∀ (ts : List Table) (i q : Nat) (t : Table), ts[i]? = some t → q < t.cols.length → (refsOf ts)[atN ts i + q]? = some ⟨t.id, (q : Nat)⟩
  | [], i, q, t, h, _ => by simp at h
  | t' :: ts, 0, q, t, h, hq => by
    cases h
    show (refsB t' ++ refsOf ts)[0 + q]? = _
    rw [Nat.zero_add, List.getElem?_append_left (by rw [refsB_len]; exact hq)]
    simp [refsB, hq]
  | t' :: ts, i + 1, q, t, h, hq => by
    have ih := refsOf_get ts i q t h hq
    have e : atN (t' :: ts) (i + 1) = t'.cols.length + atN ts i := by simp [atN]
    show (refsB t' ++ refsOf ts)[atN (t' :: ts) (i + 1) + q]? = _
    rw [e, List.getElem?_append_right (by rw [refsB_len]; omega), refsB_len, show t'.cols.length + atN ts i + q - t'.cols.length = atN ts i + q by omega, ih]
end Go.Sx.Sp
namespace Go.Sx.Sp
open Go Go.Sx Go.Proofs
attribute [local irreducible] GoodW famL
section
variable {l : List Table} {p : Pth}
end
end Go.Sx.Sp
namespace Go.Sx.Sp
open Go Go.Sx Go.Proofs
attribute [local irreducible] GoodW famL
end Go.Sx.Sp
namespace Go.Sx.Sp
open Go Go.Sx Go.Proofs
attribute [local irreducible] GoodW famL
theorem pathGo_steps (t : List Int) (E : List (List Int)) : ∀ k s, (pathGo t E k s).steps.length ≤ s.steps.length + k
  | 0, s => Nat.le_refl _
  | k + 1, s => by
    have ih := pathGo_steps t E k (pathStep t E s)
    have h1 : (pathStep t E s).steps.length ≤ s.steps.length + 1 := by
      unfold pathStep
      repeat' split
      all_goals first | exact Nat.le_succ _ | (unfold pathAdd; simp)
    show (pathGo t E k (pathStep t E s)).steps.length ≤ _
    omega
theorem pathF_steps (t : List Int) (l : List Table) (q : Nat) : (pathF t l q).1.steps.length ≤ 4 := by
  have h1 := pathGo_steps t (edges l) (nextV t (nextP t q) 4).toNat ⟨[(l.getD (nextV t q l.length).toNat Table.zero).id], [], nextP t (nextP t q)⟩
  have h2 := nextV_range t (nextP t q) (n := 4) (by omega)
  show (pathGo t (edges l) (nextV t (nextP t q) 4).toNat ⟨[(l.getD (nextV t q l.length).toNat Table.zero).id], [], nextP t (nextP t q)⟩).steps.length ≤ 4
  simp only [List.length_nil] at h1
  omega
def sWords : List Str := [[97], [98], [99], []]
noncomputable def fltStep (t : List Int) (all : List Rf) (s : List Flt × Nat) : List Flt × Nat :=
  let r := all.getD (nextV t s.2 all.length).toNat ⟨0, 0⟩
  let kd := 1 + nextV t (nextP t s.2) 4
  let q2 := nextP t (nextP t s.2)
  if kd ≤ 2 then (s.1 ++ [⟨r, kd, wordF sWords t q2⟩], nextP t q2) else (s.1 ++ [⟨r, kd, []⟩], q2)
noncomputable def fltGo (t : List Int) (all : List Rf) : Nat → List Flt × Nat → List Flt × Nat
  | 0, s => s
  | n + 1, s => fltGo t all n (fltStep t all s)
def rfStep (t : List Int) (all : List Rf) (s : List Rf × Nat) : List Rf × Nat := (s.1 ++ [all.getD (nextV t s.2 all.length).toNat ⟨0, 0⟩], nextP t s.2)
def rfGo (t : List Int) (all : List Rf) : Nat → List Rf × Nat → List Rf × Nat
  | 0, s => s
  | n + 1, s => rfGo t all n (rfStep t all s)
noncomputable def someF (t : List Int) (l : List Table) (q : Nat) : Vw × Nat :=
  let p := pathF t l q
  let all := refsOf (tabsM l p.1)
  let F := fltGo t all (nextV t p.2 3).toNat ([], nextP t p.2)
  let C := rfGo t all (nextV t F.2 4).toNat ([], nextP t F.2)
  (⟨p.1, F.1, C.1⟩, C.2)
theorem fltStep_q {t : List Int} {all : List Rf} {s : List Flt × Nat} (h : s.2 ≤ t.length) : (fltStep t all s).2 ≤ t.length ∧ (fltStep t all s).1.length = s.1.length + 1 := by
  unfold fltStep
  simp only
  have h1 := nextP_le (nextP_le h)
  split
  · exact ⟨nextP_le h1, by simp⟩
  · exact ⟨h1, by simp⟩
theorem fltGo_q {t : List Int} {all : List Rf} : ∀ n {s : List Flt × Nat}, s.2 ≤ t.length → (fltGo t all n s).2 ≤ t.length ∧ (fltGo t all n s).1.length = s.1.length + n
  | 0, s, h => ⟨h, rfl⟩
  | n + 1, s, h => by
    have h1 := fltStep_q (all := all) h
    have := fltGo_q (all := all) n h1.1
    exact ⟨this.1, by show (fltGo t all n (fltStep t all s)).1.length = _; omega⟩
theorem rfGo_q {t : List Int} {all : List Rf} : ∀ n {s : List Rf × Nat}, s.2 ≤ t.length → (rfGo t all n s).2 ≤ t.length ∧ (rfGo t all n s).1.length = s.1.length + n
  | 0, s, h => ⟨h, rfl⟩
  | n + 1, s, h => by
    have h1 : (rfStep t all s).2 ≤ t.length := nextP_le h
    have := rfGo_q (all := all) n h1
    refine ⟨this.1, ?_⟩
    show (rfGo t all n (rfStep t all s)).1.length = _
    rw [this.2]
    unfold rfStep
    simp; omega
end Go.Sx.Sp
namespace Go.Sx.Sp
open Go Go.Sx Go.Proofs
attribute [local irreducible] GoodW famL
theorem rfRows_snoc (a : List Rf) (r : Rf) : rfRows (a ++ [r]) = rfRows a ++ [r.row] := by simp [rfRows]
theorem fltRows_snoc (a : List Flt) (r : Flt) : fltRows (a ++ [r]) = fltRows a ++ [r.row] := by simp [fltRows]
set_option maxHeartbeats 32000000 in
theorem some_own (t : List Int) (l : List Table) (q : Nat) (hv : listB l = true) (hl : l.length ≤ 100) (hl0 : 0 < l.length) (hq : q ≤ t.length) (h1 : 1 ≤ (refsOf (tabsM l (pathF t l q).1)).length) (h64 : (refsOf (tabsM l (pathF t l q).1)).length ≤ 1000) :
    Spec Tryz.prog 22 [.bp 0 0, .sl (tblRows l) false] [(0, diceB t q)]
      (.agg [.int .i64 (someF t l q).1.path.start, .sl (stpRows (someF t l q).1.path.steps) false, .osl 93 0 0 (fltRows (someF t l q).1.fs).length (fltRows (someF t l q).1.fs).length, .osl 94 0 0 (rfRows (someF t l q).1.cs).length (rfRows (someF t l q).1.cs).length])
      [(0, diceB t (someF t l q).2), (93, .rows 4 (fltRows (someF t l q).1.fs) (some [])), (94, .rows 2 (rfRows (someF t l q).1.cs) (some []))] := by
  have spP := path_spec t l q hv hl hl0 hq
  have hq2 := pathF_le (t := t) (l := l) hq
  have hps := pathF_steps t l q
  have spT := tables31_spec l (pathF t l q).1 (by omega)
  have hF : someF t l q = (⟨(pathF t l q).1, (fltGo t (refsOf (tabsM l (pathF t l q).1)) (nextV t (pathF t l q).2 3).toNat ([], nextP t (pathF t l q).2)).1, (rfGo t (refsOf (tabsM l (pathF t l q).1)) (nextV t (fltGo t (refsOf (tabsM l (pathF t l q).1)) (nextV t (pathF t l q).2 3).toNat ([], nextP t (pathF t l q).2)).2 4).toNat ([], nextP t (fltGo t (refsOf (tabsM l (pathF t l q).1)) (nextV t (pathF t l q).2 3).toNat ([], nextP t (pathF t l q).2)).2)).1⟩, (rfGo t (refsOf (tabsM l (pathF t l q).1)) (nextV t (fltGo t (refsOf (tabsM l (pathF t l q).1)) (nextV t (pathF t l q).2 3).toNat ([], nextP t (pathF t l q).2)).2 4).toNat ([], nextP t (fltGo t (refsOf (tabsM l (pathF t l q).1)) (nextV t (pathF t l q).2 3).toNat ([], nextP t (pathF t l q).2)).2)).2) := rfl
  rw [hF]
  clear hF
  generalize (pathF t l q).1 = p at *
  generalize (pathF t l q).2 = q1 at *
  obtain ⟨TS, hTS⟩ : ∃ TS, TS = tabsM l p := ⟨_, rfl⟩
  have hrefl := refsOf_len (tabsM l p)
  have hrg := fun i q t h1 h2 => refsOf_get (tabsM l p) i q t h1 h2
  rw [← hTS] at h1 h64 spT hrefl hrg ⊢
  obtain ⟨RS, hRS⟩ : ∃ RS, RS = refsOf TS := ⟨_, rfl⟩
  rw [← hRS] at h1 h64 hrefl hrg ⊢
  have htl := tblRows_len TS
  have n1 := next_spec t q1 3 (by decide) hq2
  have v1 := nextV_range t q1 (n := 3) (by decide)
  obtain ⟨K, hK⟩ := Int.eq_ofNat_of_zero_le v1.1
  rw [hK] at n1 v1 ⊢
  rw [Int.toNat_natCast]
  have hq3 := nextP_le hq2
  generalize nextP t q1 = q3 at *
  refine gEn env Tryz.func22 fun Γ hN hK hML => ?_
  (refine gGo ?_; intros)
  (refine gCA [(0, 0)] [] [] (spP) ?_; conv => whnf)
  (refine gGo ?_; intros)
  (refine gPC (spT) ?_; conv => whnf)
  (refine gGo ?_; intros)
  refine W.ownCell 5 0 2 93 4 rfl rfl rfl rfl rfl ?_
  refine W.ownCell 5 0 3 94 2 rfl rfl rfl rfl rfl ?_
  refine W.ownNil 6 92 2 rfl rfl ?_
  refine W.leG (mp := [(0, 0), (4, 4), (5, 5), (93, 93), (94, 94), (92, 92)]) (bo := []) (st' := ⟨[(0, .bp 0 0), (4, .bp 4 0), (5, .bp 5 0), (6, .osl 92 0 0 (rfRows (RS.take (atN TS 0))).length (rfRows (RS.take (atN TS 0))).length), (20, .sl (tblRows TS) false), (21, .int .i64 (tblRows TS).length), (22, .int .i64 (0 : Nat))], [(0, [diceB t (q1)]), (4, [.rows 4 [[.int .i64 0, .nils, .nils, .nils]] none]), (5, [.rows 4 [[.int .i64 p.start, .sl (stpRows p.steps) false, .osl 93 0 0 (fltRows (([] : List Flt))).length (fltRows (([] : List Flt))).length, .osl 94 0 0 (rfRows (([] : List Rf))).length (rfRows (([] : List Rf))).length]] none]), (93, [.rows 4 (fltRows (([] : List Flt))) (some [])]), (94, [.rows 2 (rfRows (([] : List Rf))) (some [])]), (92, [.rows 2 (rfRows (RS.take (atN TS 0))) (some [])])], [0, 4, 5, 93, 94, 92]⟩)
    (LeG.mq (.ci 0 (.ci 4 (.ci 5 (.ci 93 (.ci 94 (.ci 92 .nil))))))) ?_
  refine W.loopG (fun m st => ∃ k : Nat, k ≤ TS.length ∧ m = TS.length - k ∧ st = ⟨[(0, .bp 0 0), (4, .bp 4 0), (5, .bp 5 0), (6, .osl 92 0 0 (rfRows (RS.take (atN TS k))).length (rfRows (RS.take (atN TS k))).length), (20, .sl (tblRows TS) false), (21, .int .i64 (tblRows TS).length), (22, .int .i64 k)], [(0, [diceB t (q1)]), (4, [.rows 4 [[.int .i64 0, .nils, .nils, .nils]] none]), (5, [.rows 4 [[.int .i64 p.start, .sl (stpRows p.steps) false, .osl 93 0 0 (fltRows (([] : List Flt))).length (fltRows (([] : List Flt))).length, .osl 94 0 0 (rfRows (([] : List Rf))).length (rfRows (([] : List Rf))).length]] none]), (93, [.rows 4 (fltRows (([] : List Flt))) (some [])]), (94, [.rows 2 (rfRows (([] : List Rf))) (some [])]), (92, [.rows 2 (rfRows (RS.take (atN TS k))) (some [])])], [0, 4, 5, 93, 94, 92]⟩)
    TS.length _ ⟨0, by omega, by omega, rfl⟩ ⟨[(0, 0), (4, 4), (5, 5), (93, 93), (94, 94), (92, 92)], [], [], LeG.mq (.ci 0 (.ci 4 (.ci 5 (.ci 93 (.ci 94 (.ci 92 .nil))))))⟩ ?_
  rintro m st ⟨k, hk, rfl, rfl⟩
  (refine gGo ?_; intros)
  refine boolRes_split (fun hb => ?_) (fun hb => ?_) <;> conv => whnf
  · have hkl : k < TS.length := by omega
    have hg := tblRows_get hkl
    have htk : TS[k]? = some TS[k] := List.getElem?_eq_getElem hkl
    have hsu := atN_succ htk
    have hle := atN_le TS (k + 1)
    have hrk := fun (q : Nat) (hq : q < (TS[k]'hkl).cols.length) => hrg k q (TS[k]'hkl) htk hq
    generalize TS[k] = tk at *
    have hcl := colRows_len tk.cols
    (refine gGo ?_; intros)
    refine rowAt_of (r := tk.row) (by simpa using hg) ?_
    conv => whnf
    (refine gGo ?_; intros)
    refine W.leG (mp := [(0, 0), (4, 4), (5, 5), (93, 93), (94, 94), (92, 92), (8, 8)]) (bo := []) (st' := ⟨[(0, .bp 0 0), (4, .bp 4 0), (5, .bp 5 0), (6, .osl 92 0 0 (rfRows (RS.take (atN TS k + 0))).length (rfRows (RS.take (atN TS k + 0))).length), (20, .sl (tblRows TS) false), (21, .int .i64 (tblRows TS).length), (8, .bp 8 0), (22, .int .i64 k), (27, .sl (colRows tk.cols) false), (28, .int .i64 (colRows tk.cols).length), (29, .int .i64 (0 : Nat))], [(0, [diceB t (q1)]), (4, [.rows 4 [[.int .i64 0, .nils, .nils, .nils]] none]), (5, [.rows 4 [[.int .i64 p.start, .sl (stpRows p.steps) false, .osl 93 0 0 (fltRows (([] : List Flt))).length (fltRows (([] : List Flt))).length, .osl 94 0 0 (rfRows (([] : List Rf))).length (rfRows (([] : List Rf))).length]] none]), (93, [.rows 4 (fltRows (([] : List Flt))) (some [])]), (94, [.rows 2 (rfRows (([] : List Rf))) (some [])]), (92, [.rows 2 (rfRows (RS.take (atN TS k + 0))) (some [])]), (8, [.rows 3 [tk.row] none])], [0, 4, 5, 93, 94, 92, 8]⟩)
      (LeG.mq (.ci 0 (.ci 4 (.ci 5 (.ci 93 (.ci 94 (.ci 92 (.ci 8 .nil)))))))) ?_
    refine W.loopG (fun m st => ∃ q : Nat, q ≤ tk.cols.length ∧ m = tk.cols.length - q ∧ st = ⟨[(0, .bp 0 0), (4, .bp 4 0), (5, .bp 5 0), (6, .osl 92 0 0 (rfRows (RS.take (atN TS k + q))).length (rfRows (RS.take (atN TS k + q))).length), (20, .sl (tblRows TS) false), (21, .int .i64 (tblRows TS).length), (8, .bp 8 0), (22, .int .i64 k), (27, .sl (colRows tk.cols) false), (28, .int .i64 (colRows tk.cols).length), (29, .int .i64 q)], [(0, [diceB t (q1)]), (4, [.rows 4 [[.int .i64 0, .nils, .nils, .nils]] none]), (5, [.rows 4 [[.int .i64 p.start, .sl (stpRows p.steps) false, .osl 93 0 0 (fltRows (([] : List Flt))).length (fltRows (([] : List Flt))).length, .osl 94 0 0 (rfRows (([] : List Rf))).length (rfRows (([] : List Rf))).length]] none]), (93, [.rows 4 (fltRows (([] : List Flt))) (some [])]), (94, [.rows 2 (rfRows (([] : List Rf))) (some [])]), (92, [.rows 2 (rfRows (RS.take (atN TS k + q))) (some [])]), (8, [.rows 3 [tk.row] none])], [0, 4, 5, 93, 94, 92, 8]⟩)
      tk.cols.length _ ⟨0, by omega, by omega, rfl⟩ ⟨[(0, 0), (4, 4), (5, 5), (93, 93), (94, 94), (92, 92), (8, 8)], [], [], LeG.mq (.ci 0 (.ci 4 (.ci 5 (.ci 93 (.ci 94 (.ci 92 (.ci 8 .nil)))))))⟩ ?_
    rintro m st ⟨q, hq, rfl, rfl⟩
    have hn := rfRows_len (RS.take (atN TS k + q))
    rw [List.length_take] at hn
    (refine gGo ?_; intros)
    refine boolRes_split (fun hb => ?_) (fun hb => ?_) <;> conv => whnf
    · have hql : q < tk.cols.length := by omega
      have h1 := hrk q hql
      obtain ⟨g1, g2⟩ := List.getElem?_eq_some_iff.1 h1
      have hsn : RS.take (atN TS k + (q + 1)) = RS.take (atN TS k + q) ++ [⟨tk.id, (q : Nat)⟩] := by
        rw [show atN TS k + (q + 1) = (atN TS k + q) + 1 by omega, List.take_succ_eq_append_getElem g1, g2]
      generalize RS.take (atN TS k + q) = A0 at *
      (refine gGo ?_; intros)
      refine ⟨⟨rowsSz_cons rfl rowsSz_nil, rfl⟩, fitsN (n := (rfRows A0).length + 1) (b := 16) (by omega) (by omega), .inl ⟨rfl, rfl, ?_⟩⟩
      conv => whnf
      (refine gGo ?_; intros)
      refine ⟨_, _, ?_, ⟨q + 1, by omega, rfl, rfl⟩, [(0, 0), (4, 4), (5, 5), (93, 93), (94, 94), (92, 92), (8, 8)], [], [], LeG.mk' rfl rfl rfl (by rw [hsn, rfRows_snoc, List.length_append]; exact (by repeat' (first | exact trivial | exact ⟨_, .refl _, rfl⟩ | apply And.intro))) (.ci 0 (.ci 4 (.ci 5 (.ci 93 (.ci 94 (.cons 92 rfl rfl (.refl _) (by rw [hsn, rfRows_snoc]; rfl) (.ci 8 .nil))))))) rfl rfl (by rw [hK]; rfl)⟩
      omega
    · have hqe : q = tk.cols.length := by omega
      rw [hqe, ← hsu]
      (refine gGo ?_; intros)
      refine ⟨_, _, ?_, ⟨k + 1, by omega, rfl, rfl⟩, [(0, 0), (4, 4), (5, 5), (93, 93), (94, 94), (92, 92)], [], [], LeG.mq (.ci 0 (.ci 4 (.ci 5 (.ci 93 (.ci 94 (.ci 92 .nil))))))⟩
      omega
  · have hke : k = TS.length := by omega
    rw [hke, ← hrefl, List.take_length]
    refine gA ?_
    refine gD rfl ?_
    refine gG ?_
    conv => whnf
    have hrl := rfRows_len RS
    refine W.leG (mp := [(0, 0), (4, 4), (5, 5), (93, 93), (94, 94), (92, 92)]) (bo := []) (st' := ⟨[(0, .bp 0 0), (4, .bp 4 0), (5, .bp 5 0), (6, .osl 92 0 0 (rfRows (RS)).length (rfRows (RS)).length)], [(0, [diceB t (q1)]), (4, [.rows 4 [[.int .i64 0, .nils, .nils, .nils]] none]), (5, [.rows 4 [[.int .i64 p.start, .sl (stpRows p.steps) false, .osl 93 0 0 (fltRows (([] : List Flt))).length (fltRows (([] : List Flt))).length, .osl 94 0 0 (rfRows (([] : List Rf))).length (rfRows (([] : List Rf))).length]] none]), (93, [.rows 4 (fltRows (([] : List Flt))) (some [])]), (94, [.rows 2 (rfRows (([] : List Rf))) (some [])]), (92, [.rows 2 (rfRows (RS)) (some [])])], [0, 4, 5, 93, 94, 92]⟩)
      (LeG.mq (.ci 0 (.ci 4 (.ci 5 (.ci 93 (.ci 94 (.ci 92 .nil))))))) ?_
    (refine gGo ?_; intros)
    (refine gCA [(0, 0)] [] [] (n1) ?_; conv => whnf)
    (refine gGo ?_; intros)
    refine W.leG (mp := [(0, 0), (4, 4), (5, 5), (93, 93), (94, 94), (92, 92)]) (bo := []) (st' := ⟨[(0, .bp 0 0), (4, .bp 4 0), (5, .bp 5 0), (6, .osl 92 0 0 (rfRows (RS)).length (rfRows (RS)).length), (10, .int .i64 (K : Nat))], [(0, [diceB t (q3)]), (4, [.rows 4 [[.int .i64 0, .nils, .nils, .nils]] none]), (5, [.rows 4 [[.int .i64 p.start, .sl (stpRows p.steps) false, .osl 93 0 0 (fltRows (([] : List Flt))).length (fltRows (([] : List Flt))).length, .osl 94 0 0 (rfRows (([] : List Rf))).length (rfRows (([] : List Rf))).length]] none]), (93, [.rows 4 (fltRows (([] : List Flt))) (some [])]), (94, [.rows 2 (rfRows (([] : List Rf))) (some [])]), (92, [.rows 2 (rfRows (RS)) (some [])])], [0, 4, 5, 93, 94, 92]⟩)
      (LeG.mq (.ci 0 (.ci 4 (.ci 5 (.ci 93 (.ci 94 (.ci 92 .nil))))))) ?_
    refine W.loopG (fun n st => ∃ (k : Nat) (s : List Flt × Nat), s.2 ≤ t.length ∧ s.1.length + k ≤ K ∧ fltGo t RS K ([], q3) = fltGo t RS k s ∧ n = k ∧ st = ⟨[(0, .bp 0 0), (4, .bp 4 0), (5, .bp 5 0), (6, .osl 92 0 0 (rfRows (RS)).length (rfRows (RS)).length), (10, .int .i64 (k : Nat))], [(0, [diceB t (s.2)]), (4, [.rows 4 [[.int .i64 0, .nils, .nils, .nils]] none]), (5, [.rows 4 [[.int .i64 p.start, .sl (stpRows p.steps) false, .osl 93 0 0 (fltRows (s.1)).length (fltRows (s.1)).length, .osl 94 0 0 (rfRows (([] : List Rf))).length (rfRows (([] : List Rf))).length]] none]), (93, [.rows 4 (fltRows (s.1)) (some [])]), (94, [.rows 2 (rfRows (([] : List Rf))) (some [])]), (92, [.rows 2 (rfRows (RS)) (some [])])], [0, 4, 5, 93, 94, 92]⟩)
      K _ ⟨K, ([], q3), hq3, by show 0 + K ≤ K; omega, rfl, rfl, rfl⟩ ⟨[(0, 0), (4, 4), (5, 5), (93, 93), (94, 94), (92, 92)], [], [], LeG.mq (.ci 0 (.ci 4 (.ci 5 (.ci 93 (.ci 94 (.ci 92 .nil))))))⟩ ?_
    rintro n st ⟨k, ⟨S, sq⟩, hsq, hsl, hgo, rfl, rfl⟩
    simp only at hsq hsl
    (refine gGo ?_; intros)
    refine boolRes_split (fun hb => ?_) (fun hb => ?_) <;> conv => whnf
    · obtain ⟨m, rfl⟩ : ∃ m, n = m + 1 := ⟨n - 1, by omega⟩
      have n2 := next_spec t sq RS.length (by omega) hsq
      have v2 := nextV_range t sq (n := (RS.length : Int)) (by omega)
      have hsq2 := nextP_le hsq
      have n3 := next_spec t (nextP t sq) 4 (by decide) hsq2
      have v3 := nextV_range t (nextP t sq) (n := 4) (by decide)
      have hsq3 := nextP_le hsq2
      obtain ⟨_, spW⟩ := wordF_spec (ws := sWords) (by decide) (by decide) hsq3
      have hsq4 := nextP_le hsq3
      obtain ⟨i, hi⟩ := Int.eq_ofNat_of_zero_le v2.1
      have hgo2 : fltGo t RS K ([], q3) = fltGo t RS m (fltStep t RS (S, sq)) := hgo
      have hst : fltStep t RS (S, sq) = if 1 + nextV t (nextP t sq) 4 ≤ 2 then (S ++ [⟨RS.getD (nextV t sq RS.length).toNat ⟨0, 0⟩, 1 + nextV t (nextP t sq) 4, wordF sWords t (nextP t (nextP t sq))⟩], nextP t (nextP t (nextP t sq))) else (S ++ [⟨RS.getD (nextV t sq RS.length).toNat ⟨0, 0⟩, 1 + nextV t (nextP t sq) 4, []⟩], nextP t (nextP t sq)) := rfl
      rw [hi] at v2 n2 hst
      have hil : i < RS.length := by omega
      have hgi := rfRows_get hil
      rw [Int.toNat_natCast, List.getD_eq_getElem?_getD, List.getElem?_eq_getElem hil] at hst
      simp only [Option.getD_some] at hst
      generalize RS[i] = r at *
      generalize wordF sWords t (nextP t (nextP t sq)) = wd at *
      generalize nextV t (nextP t sq) 4 = kd at *
      generalize nextP t (nextP t (nextP t sq)) = s3 at *
      generalize nextP t (nextP t sq) = s2 at *
      generalize nextP t sq = s1 at *
      rw [← hrl] at n2
      have hSl := fltRows_len S
      (refine gGo ?_; intros)
      (refine gCA [(0, 0)] [] [] (n2) ?_; conv => whnf)
      (refine gGo ?_; intros)
      refine rowAt_of (by simpa using hgi) ?_
      conv => whnf
      (refine gGo ?_; intros)
      by_cases hkd : 1 + kd ≤ 2
      · rw [if_pos hkd] at hst
        (refine gGo ?_; intros)
        (refine gCA [(0, 0)] [] [] (n3) ?_; conv => whnf)
        (refine gGo ?_; intros)
        (refine gCA [(0, 0)] [] [] (spW) ?_; conv => whnf)
        (refine gGo ?_; intros)
        refine ⟨⟨rowsSz_cons rfl rowsSz_nil, rfl⟩, fitsN (n := (fltRows S).length + 1) (b := 40) (by omega) (by omega), .inl ⟨rfl, rfl, ?_⟩⟩
        conv => whnf
        (refine gGo ?_; intros)
        refine ⟨_, _, ?_, ⟨m, (S ++ [(Flt.mk r (1 + kd) wd)], s3), hsq4, by simp; omega, by rw [hgo2, hst], rfl, rfl⟩, [(0, 0), (4, 4), (5, 5), (93, 93), (94, 94), (92, 92)], [], [], LeG.mk' rfl rfl rfl ⟨⟨_, .refl _, rfl⟩, ⟨_, .refl _, rfl⟩, ⟨_, .refl _, rfl⟩, ⟨_, .refl _, rfl⟩, ⟨_, .refl _, (by show V.int .i64 (((m + 1 : Nat) : Int) - 1) = _; congr 1; omega)⟩, trivial⟩ (.ci 0 (.ci 4 (.cons 5 rfl rfl (.refl _) (by rw [fltRows_snoc, List.length_append]; rfl) (.cons 93 rfl rfl (.refl _) (by rw [fltRows_snoc]; rfl) (.ci 94 (.ci 92 .nil)))))) rfl rfl (by rw [hK]; rfl)⟩
        omega
      · rw [if_neg hkd] at hst
        (refine gGo ?_; intros)
        (refine gCA [(0, 0)] [] [] (n3) ?_; conv => whnf)
        (refine gGo ?_; intros)
        refine ⟨⟨rowsSz_cons rfl rowsSz_nil, rfl⟩, fitsN (n := (fltRows S).length + 1) (b := 40) (by omega) (by omega), .inl ⟨rfl, rfl, ?_⟩⟩
        conv => whnf
        (refine gGo ?_; intros)
        refine ⟨_, _, ?_, ⟨m, (S ++ [(Flt.mk r (1 + kd) [])], s2), hsq3, by simp; omega, by rw [hgo2, hst], rfl, rfl⟩, [(0, 0), (4, 4), (5, 5), (93, 93), (94, 94), (92, 92)], [], [], LeG.mk' rfl rfl rfl ⟨⟨_, .refl _, rfl⟩, ⟨_, .refl _, rfl⟩, ⟨_, .refl _, rfl⟩, ⟨_, .refl _, rfl⟩, ⟨_, .refl _, (by show V.int .i64 (((m + 1 : Nat) : Int) - 1) = _; congr 1; omega)⟩, trivial⟩ (.ci 0 (.ci 4 (.cons 5 rfl rfl (.refl _) (by rw [fltRows_snoc, List.length_append]; rfl) (.cons 93 rfl rfl (.refl _) (by rw [fltRows_snoc]; rfl) (.ci 94 (.ci 92 .nil)))))) rfl rfl (by rw [hK]; rfl)⟩
        omega
    · have hk0 : n = 0 := by omega
      subst hk0
      have hgo : fltGo t RS K ([], q3) = (S, sq) := hgo
      rw [hgo]
      have n4 := next_spec t sq 4 (by decide) hsq
      have v4 := nextV_range t sq (n := 4) (by decide)
      obtain ⟨K4, hK4⟩ := Int.eq_ofNat_of_zero_le v4.1
      have hq4 := nextP_le hsq
      simp only
      rw [hK4] at n4 v4 ⊢
      rw [Int.toNat_natCast]
      generalize nextP t sq = q4 at *
      have hSl := fltRows_len S
      (refine gGo ?_; intros)
      (refine gCA [(0, 0)] [] [] (n4) ?_; conv => whnf)
      (refine gGo ?_; intros)
      refine W.leG (mp := [(0, 0), (4, 4), (5, 5), (93, 93), (94, 94), (92, 92)]) (bo := []) (st' := ⟨[(0, .bp 0 0), (4, .bp 4 0), (5, .bp 5 0), (6, .osl 92 0 0 (rfRows (RS)).length (rfRows (RS)).length), (12, .int .i64 (K4 : Nat))], [(0, [diceB t (q4)]), (4, [.rows 4 [[.int .i64 0, .nils, .nils, .nils]] none]), (5, [.rows 4 [[.int .i64 p.start, .sl (stpRows p.steps) false, .osl 93 0 0 (fltRows (S)).length (fltRows (S)).length, .osl 94 0 0 (rfRows (([] : List Rf))).length (rfRows (([] : List Rf))).length]] none]), (93, [.rows 4 (fltRows (S)) (some [])]), (94, [.rows 2 (rfRows (([] : List Rf))) (some [])]), (92, [.rows 2 (rfRows (RS)) (some [])])], [0, 4, 5, 93, 94, 92]⟩)
        (LeG.mq (.ci 0 (.ci 4 (.ci 5 (.ci 93 (.ci 94 (.ci 92 .nil))))))) ?_
      refine W.loopG (fun n st => ∃ (k : Nat) (s : List Rf × Nat), s.2 ≤ t.length ∧ s.1.length + k ≤ K4 ∧ rfGo t RS K4 ([], q4) = rfGo t RS k s ∧ n = k ∧ st = ⟨[(0, .bp 0 0), (4, .bp 4 0), (5, .bp 5 0), (6, .osl 92 0 0 (rfRows (RS)).length (rfRows (RS)).length), (12, .int .i64 (k : Nat))], [(0, [diceB t (s.2)]), (4, [.rows 4 [[.int .i64 0, .nils, .nils, .nils]] none]), (5, [.rows 4 [[.int .i64 p.start, .sl (stpRows p.steps) false, .osl 93 0 0 (fltRows (S)).length (fltRows (S)).length, .osl 94 0 0 (rfRows (s.1)).length (rfRows (s.1)).length]] none]), (93, [.rows 4 (fltRows (S)) (some [])]), (94, [.rows 2 (rfRows (s.1)) (some [])]), (92, [.rows 2 (rfRows (RS)) (some [])])], [0, 4, 5, 93, 94, 92]⟩)
        K4 _ ⟨K4, ([], q4), hq4, by show 0 + K4 ≤ K4; omega, rfl, rfl, rfl⟩ ⟨[(0, 0), (4, 4), (5, 5), (93, 93), (94, 94), (92, 92)], [], [], LeG.mq (.ci 0 (.ci 4 (.ci 5 (.ci 93 (.ci 94 (.ci 92 .nil))))))⟩ ?_
      rintro n st ⟨k, ⟨C, cq⟩, hcq, hclen, hgo4, rfl, rfl⟩
      simp only at hcq hclen
      have hCl := rfRows_len C
      (refine gGo ?_; intros)
      refine boolRes_split (fun hb => ?_) (fun hb => ?_) <;> conv => whnf
      · obtain ⟨m, rfl⟩ : ∃ m, n = m + 1 := ⟨n - 1, by omega⟩
        have n2 := next_spec t cq RS.length (by omega) hcq
        have v2 := nextV_range t cq (n := (RS.length : Int)) (by omega)
        have hcq2 := nextP_le hcq
        obtain ⟨i, hi⟩ := Int.eq_ofNat_of_zero_le v2.1
        have hgo2 : rfGo t RS K4 ([], q4) = rfGo t RS m (rfStep t RS (C, cq)) := hgo4
        have hst : rfStep t RS (C, cq) = (C ++ [RS.getD (nextV t cq RS.length).toNat ⟨0, 0⟩], nextP t cq) := rfl
        rw [hi] at v2 n2 hst
        have hil : i < RS.length := by omega
        have hgi := rfRows_get hil
        rw [Int.toNat_natCast, List.getD_eq_getElem?_getD, List.getElem?_eq_getElem hil] at hst
        simp only [Option.getD_some] at hst
        generalize RS[i] = r at *
        generalize nextP t cq = c1 at *
        rw [← hrl] at n2
        (refine gGo ?_; intros)
        (refine gCA [(0, 0)] [] [] (n2) ?_; conv => whnf)
        (refine gGo ?_; intros)
        refine rowAt_of (by simpa using hgi) ?_
        conv => whnf
        (refine gGo ?_; intros)
        refine ⟨⟨rowsSz_cons rfl rowsSz_nil, rfl⟩, fitsN (n := (rfRows C).length + 1) (b := 16) (by omega) (by omega), .inl ⟨rfl, rfl, ?_⟩⟩
        conv => whnf
        (refine gGo ?_; intros)
        refine ⟨_, _, ?_, ⟨m, (C ++ [r], c1), hcq2, by simp; omega, by rw [hgo2, hst], rfl, rfl⟩, [(0, 0), (4, 4), (5, 5), (93, 93), (94, 94), (92, 92)], [], [], LeG.mk' rfl rfl rfl ⟨⟨_, .refl _, rfl⟩, ⟨_, .refl _, rfl⟩, ⟨_, .refl _, rfl⟩, ⟨_, .refl _, rfl⟩, ⟨_, .refl _, (by show V.int .i64 (((m + 1 : Nat) : Int) - 1) = _; congr 1; omega)⟩, trivial⟩ (.ci 0 (.ci 4 (.cons 5 rfl rfl (.refl _) (by rw [rfRows_snoc, List.length_append]; rfl) (.ci 93 (.cons 94 rfl rfl (.refl _) (by rw [rfRows_snoc]; rfl) (.ci 92 .nil)))))) rfl rfl (by rw [hK]; rfl)⟩
        omega
      · have hk0 : n = 0 := by omega
        subst hk0
        have hgo4 : rfGo t RS K4 ([], q4) = (C, cq) := hgo4
        rw [hgo4]
        (refine gGo ?_; intros)
        (refine gM ?_; conv => whnf)
        exact retH rfl (.refl _) rfl rfl rfl ⟨rfl, rfl, rfl, rfl, rfl, rfl, trivial⟩
end Go.Sx.Sp
namespace Go.Sx.Sp
open Go Go.Sx Go.Proofs
attribute [local irreducible] GoodW famL
theorem wf_ref {n : Nat} {vs : List V} (hs : shape T (n + 2) 45 vs) : ∃ x y : Int, vs = [.int .i64 x, .int .i64 y] := by
  obtain ⟨a, b, rfl, ha, c, d, rfl, hc, rfl⟩ := shape_st (T := T) (t := 45) rfl hs
  obtain ⟨x, rfl, _⟩ := shape_int (T := T) (t := 3) rfl ha
  obtain ⟨y, rfl, _⟩ := shape_int (T := T) (t := 3) rfl hc
  exact ⟨x, y, rfl⟩
theorem wf_steps {n : Nat} {rows : List (List V)} (hs : ∀ r ∈ rows, shape T (n + 3) 89 r) : ∃ l : List Stp, rows = stpRows l := by
  obtain ⟨l, h, _⟩ := rows_map (f := Stp.row) (p := fun _ => True) (rows := rows) fun r hr => by
    obtain ⟨a, b, rfl, ha, c, d, rfl, hc, rfl⟩ := shape_st (T := T) (t := 89) rfl (hs r hr)
    obtain ⟨x, y, rfl⟩ := wf_ref ha
    obtain ⟨z, u, rfl⟩ := wf_ref hc
    exact ⟨⟨x, y, z, u⟩, rfl, trivial⟩
  exact ⟨l, h⟩
theorem wf_path {n : Nat} {vs : List V} (hs : shape T (n + 5) 31 vs) : ∃ p : Pth, vs = p.row := by
  obtain ⟨a, b, rfl, ha, c, d, rfl, hc, rfl⟩ := shape_st (T := T) (t := 31) rfl hs
  obtain ⟨x, rfl, _⟩ := shape_int (T := T) (t := 3) rfl ha
  obtain ⟨q, rfl, _, hq⟩ := shape_sl (T := T) (t := 29) rfl hc
  obtain ⟨l, rfl⟩ := wf_steps hq
  exact ⟨⟨x, l⟩, rfl⟩
theorem wf_refs {n : Nat} {rows : List (List V)} (hs : ∀ r ∈ rows, shape T (n + 2) 45 r) : ∃ l : List Rf, rows = rfRows l := by
  obtain ⟨l, h, _⟩ := rows_map (f := Rf.row) (p := fun _ => True) (rows := rows) fun r hr => by
    obtain ⟨x, y, rfl⟩ := wf_ref (hs r hr)
    exact ⟨⟨x, y⟩, rfl, trivial⟩
  exact ⟨l, h⟩
theorem wf_flts {n : Nat} {rows : List (List V)} (hs : ∀ r ∈ rows, shape T (n + 3) 55 r) : ∃ l : List Flt, rows = fltRows l := by
  obtain ⟨l, h, _⟩ := rows_map (f := Flt.row) (p := fun _ => True) (rows := rows) fun r hr => by
    obtain ⟨a, b, rfl, ha, c, d, rfl, hc, e, f, rfl, he, rfl⟩ := shape_st (T := T) (t := 55) rfl (hs r hr)
    obtain ⟨x, y, rfl⟩ := wf_ref ha
    obtain ⟨z, rfl, _⟩ := shape_int (T := T) (t := 3) rfl hc
    obtain ⟨u, rfl, _⟩ := shape_str (T := T) (t := 9) rfl he
    exact ⟨⟨⟨x, y⟩, z, u⟩, rfl, trivial⟩
  exact ⟨l, h⟩
theorem arg_view {n : Nat} {u : V} (hs : argShape T (n + 6) 42 u) : ∃ v : Vw, u = .agg v.row := by
  obtain ⟨vs, rfl, h⟩ := argShape_agg (T := T) (t := 42) rfl rfl hs
  obtain ⟨a, b, rfl, ha, c, d, rfl, hc, e, f, rfl, he, rfl⟩ := shape_st (T := T) (t := 42) rfl h
  obtain ⟨p, rfl⟩ := wf_path ha
  obtain ⟨q, rfl, _, hq⟩ := shape_sl (T := T) (t := 39) rfl hc
  obtain ⟨F, rfl⟩ := wf_flts hq
  obtain ⟨q2, rfl, _, hq2⟩ := shape_sl (T := T) (t := 40) rfl he
  obtain ⟨C, rfl⟩ := wf_refs hq2
  exact ⟨⟨p, F, C⟩, rfl⟩
theorem tabOf_J {L : List Table} (h : ∀ k (hk : k < L.length), TabJ k L[k]) (n : Int) : (tabOf L n).cols.length ≤ 2 := by
  unfold tabOf
  cases hf : findT L n with
  | none => exact Nat.zero_le _
  | some t =>
    obtain ⟨hm, _⟩ := findT_mem hf
    obtain ⟨i, hi, rfl⟩ := List.getElem_of_mem hm
    exact (h i hi).few.2
theorem refs_J {L : List Table} (h : ∀ k (hk : k < L.length), TabJ k L[k]) (hl0 : 0 < L.length) (t : List Int) (q : Nat) : 1 ≤ (refsOf (tabsM L (pathF t L q).1)).length ∧ (refsOf (tabsM L (pathF t L q).1)).length ≤ 10 := by
  have hps := pathF_steps t L q
  have hst : (pathF t L q).1.start = (L.getD (nextV t q L.length).toNat Table.zero).id := rfl
  have hr := nextV_range t q (n := (L.length : Int)) (by omega)
  generalize (pathF t L q).1 = p at *
  have hml := tabsM_len L p
  have hle : ∀ k, k ≤ (tabsM L p).length → atN (tabsM L p) k ≤ 2 * k := fun k => by
    induction k with
    | zero => intro _; simp [atN]
    | succ k ih =>
      intro hk
      have h3 := tabsM_get L p (i := k) (by omega)
      rw [atN_succ h3, tabN_bef L p (by omega)]
      have := ih (by omega)
      have := tabOf_J h ((tabsI p).getD k 0)
      omega
  rw [refsOf_len]
  have h9 := hle _ (Nat.le_refl _)
  refine ⟨?_, by omega⟩
  have h1 : atN (tabsM L p) 1 = (tabN L p 0).cols.length := by
    have := atN_succ (ts := tabsM L p) (i := 0) (tabsM_get L p (Nat.zero_le _))
    rw [this]; simp [atN]
  have h2 := atN_mono (tabsM L p) (show 1 ≤ (tabsM L p).length by omega)
  have hil : (nextV t q L.length).toNat < L.length := by omega
  have h3 : 1 ≤ (tabN L p 0).cols.length := by
    rw [tabN_zero, hst, List.getD_eq_getElem?_getD, List.getElem?_eq_getElem hil]
    simp only [Option.getD_some]
    unfold tabOf
    cases hf : findT L (L[(nextV t q L.length).toNat]).id with
    | none =>
      unfold findT at hf
      have := List.find?_eq_none.1 hf _ (List.getElem_mem hil)
      simp at this
    | some t =>
      obtain ⟨hm, _⟩ := findT_mem hf
      obtain ⟨i, hi, rfl⟩ := List.getElem_of_mem hm
      exact (h i hi).few.1
  omega
end Go.Sx.Sp
namespace Go.Sx.Sp
open Go Go.Sx Go.Proofs
attribute [local irreducible] GoodW famL
theorem tdiv5 {x : Int} (h : -9223372036854775808 ≤ x ∧ x ≤ 9223372036854775807) : -9223372036854775808 ≤ x.tdiv 5 ∧ x.tdiv 5 ≤ 9223372036854775807 := by
  rcases Int.le_total 0 x with h0 | h0
  · rw [Int.tdiv_eq_ediv_of_nonneg h0]; omega
  · obtain ⟨y, rfl⟩ : ∃ y, x = -y := ⟨-x, by omega⟩
    rw [Int.neg_tdiv, Int.tdiv_eq_ediv_of_nonneg (by omega)]; omega
theorem conv_zeros {N : Nat} {o : Oper} {h : Nat → List Blk} {ρ : Operand → V} {x : Operand} (hop : o.op = .convert 56 9 x) {k n : Nat} (hn : 0 < n) (hn2 : n ≤ 100000) (hx : ρ x = .osl k 0 0 n n)
    (hh : h k = [.rows 1 (List.replicate n [.int .u8 0]) (some [])]) (hd : dstOK N o.dst = true) : GoodW Tryz.prog N o ρ h (.str (List.replicate n 0)) [] [k] :=
  (convBytes_good (P := Tryz.prog) (T := T) env.table hop (e := 5) rfl rfl rfl (bs := List.replicate n 0) (ks := some []) hx (by
    rw [hh]
    simp [byteRows, List.map_replicate]) (by simp) (by simp) (by simp; omega) (by simp [maxLen]; omega)).toW hd
theorem someF_len (t : List Int) (l : List Table) (q : Nat) (hq : q ≤ t.length) : (someF t l q).1.fs.length ≤ 2 ∧ (someF t l q).1.cs.length ≤ 3 := by
  have hq2 := pathF_le (t := t) (l := l) hq
  have hq3 := nextP_le hq2
  have v1 := nextV_range t (pathF t l q).2 (n := 3) (by decide)
  have h1 := fltGo_q (t := t) (all := refsOf (tabsM l (pathF t l q).1)) (nextV t (pathF t l q).2 3).toNat (s := ([], nextP t (pathF t l q).2)) hq3
  have hf : (someF t l q).1.fs = (fltGo t (refsOf (tabsM l (pathF t l q).1)) (nextV t (pathF t l q).2 3).toNat ([], nextP t (pathF t l q).2)).1 := rfl
  have v2 := nextV_range t (fltGo t (refsOf (tabsM l (pathF t l q).1)) (nextV t (pathF t l q).2 3).toNat ([], nextP t (pathF t l q).2)).2 (n := 4) (by decide)
  have h2 := rfGo_q (t := t) (all := refsOf (tabsM l (pathF t l q).1)) (nextV t (fltGo t (refsOf (tabsM l (pathF t l q).1)) (nextV t (pathF t l q).2 3).toNat ([], nextP t (pathF t l q).2)).2 4).toNat (s := ([], nextP t (fltGo t (refsOf (tabsM l (pathF t l q).1)) (nextV t (pathF t l q).2 3).toNat ([], nextP t (pathF t l q).2)).2)) (nextP_le h1.1)
  have hc : (someF t l q).1.cs = (rfGo t (refsOf (tabsM l (pathF t l q).1)) (nextV t (fltGo t (refsOf (tabsM l (pathF t l q).1)) (nextV t (pathF t l q).2 3).toNat ([], nextP t (pathF t l q).2)).2 4).toNat ([], nextP t (fltGo t (refsOf (tabsM l (pathF t l q).1)) (nextV t (pathF t l q).2 3).toNat ([], nextP t (pathF t l q).2)).2)).1 := rfl
  rw [hf, hc, h1.2, h2.2]
  simp only [List.length_nil]
  omega
def sndC : Code → Code | .seq _ b => b | c => c
noncomputable def restV : Code := sndC (sndC (sndC (sndC (sndC (sndC ((Tryz.f4).body.getD .ret))))))
set_option maxHeartbeats 8000000 in
theorem evaluates_tail {Γ : Ctx} (hN : Γ.N = (Tryz.f4).ntmps) (hK : Γ.K0 = keys []) (hML : maxLen = 9223372036854775807) (L : List Table) (v : Vw) (spA : Spec Tryz.prog 12 [] [] (.bool true) []) : W Tryz.prog T Γ restV (RetQ T Tryz.f4 (.bool true) []) ⟨[(12, .sl (tblRows L) false), (13, .bp 13 0)], [(13, [.rows 4 [Vw.row (v)] none])], [13]⟩ := by
  unfold restV
  conv => whnf
  have spE1 := evalV_spec L v
  have spE2 := eval34_spec L v
  have spC1 := countV_spec L v
  have spC2 := count34_spec L v
  have spV1 := validV_spec L v
  have spV2 := valid34_spec L v
  generalize (evalV L v).1 = tv at *
  generalize (evalV L v).2 = e1 at *
  generalize (countV L v).1 = n1 at *
  generalize (countV L v).2 = e2 at *
  generalize validV L v = ev at *
  have spT := same3_spec tv tv
  rw [decide_eq_true rfl] at spT
  (refine gGo ?_; intros)
  (refine gPC (spE1) ?_; conv => whnf)
  (refine gGs ?_; intros)
  refine W.leG (mp := [(13, 13), (14, 14)]) (bo := []) (st' := ⟨[(12, .sl (tblRows L) false), (13, .bp 13 0), (14, .bp 14 0), (15, .int .i64 e1)], [(13, [.rows 4 [Vw.row (v)] none]), (14, [.rows 3 [tv.row] none])], [13, 14]⟩)
    (LeG.mq (.ci 13 (.ci 14 .nil))) ?_
  (refine gGo ?_; intros)
  (refine gPC (spE2) ?_; conv => whnf)
  (refine gGs ?_; intros)
  refine W.leG (mp := [(13, 13), (14, 14), (16, 16)]) (bo := []) (st' := ⟨[(12, .sl (tblRows L) false), (13, .bp 13 0), (14, .bp 14 0), (15, .int .i64 e1), (16, .bp 16 0), (17, .int .i64 e1)], [(13, [.rows 4 [Vw.row (v)] none]), (14, [.rows 3 [tv.row] none]), (16, [.rows 3 [tv.row] none])], [13, 14, 16]⟩)
    (LeG.mq (.ci 13 (.ci 14 (.ci 16 .nil)))) ?_
  (refine gGo ?_; intros)
  (refine gPC (spC1) ?_; conv => whnf)
  (refine gGs ?_; intros)
  refine W.leG (mp := [(13, 13), (14, 14), (16, 16)]) (bo := []) (st' := ⟨[(12, .sl (tblRows L) false), (13, .bp 13 0), (14, .bp 14 0), (15, .int .i64 e1), (16, .bp 16 0), (17, .int .i64 e1), (18, .int .i64 n1), (19, .int .i64 e2)], [(13, [.rows 4 [Vw.row (v)] none]), (14, [.rows 3 [tv.row] none]), (16, [.rows 3 [tv.row] none])], [13, 14, 16]⟩)
    (LeG.mq (.ci 13 (.ci 14 (.ci 16 .nil)))) ?_
  (refine gGo ?_; intros)
  (refine gPC (spC2) ?_; conv => whnf)
  (refine gGs ?_; intros)
  refine W.leG (mp := [(13, 13), (14, 14), (16, 16)]) (bo := []) (st' := ⟨[(12, .sl (tblRows L) false), (13, .bp 13 0), (14, .bp 14 0), (15, .int .i64 e1), (16, .bp 16 0), (17, .int .i64 e1), (18, .int .i64 n1), (19, .int .i64 e2), (20, .int .i64 n1), (21, .int .i64 e2)], [(13, [.rows 4 [Vw.row (v)] none]), (14, [.rows 3 [tv.row] none]), (16, [.rows 3 [tv.row] none])], [13, 14, 16]⟩)
    (LeG.mq (.ci 13 (.ci 14 (.ci 16 .nil)))) ?_
  (refine gGo ?_; intros)
  (refine gPC (spV1) ?_; conv => whnf)
  (refine gGo ?_; intros)
  (refine gPC (spV2) ?_; conv => whnf)
  (refine gGo ?_; intros)
  (refine gPC (spT) ?_; conv => whnf)
  (refine gGo ?_; intros)
  (refine gPC (spA) ?_; conv => whnf)
  (refine gGr ?_; intros)
  exact ret0 rfl rfl rfl
set_option maxHeartbeats 16000000 in
theorem evaluates_law (t : List Int) (raw : Vw) (what at' by' : Int) (hby : -9223372036854775808 ≤ by' ∧ by' ≤ 9223372036854775807) : Spec Tryz.prog 4 [.sl (intRows .i64 t) false, .agg raw.row, .int .i64 what, .int .i64 at', .int .i64 by'] [] (.bool true) [] := by
  have hl := intRows_len .i64 t
  have spL := light_spec t
  have spA := awake34_spec
  have hrl1 := stpRows_len raw.path.steps
  have hrl2 := fltRows_len raw.fs
  have hrl3 := rfRows_len raw.cs
  have spM9 := mod_spec what 9 (by decide)
  have hq5 := tdiv5 hby
  by_cases hll : t.length ≤ 500
  · rw [decide_eq_true hll] at spL
    by_cases hr8 : raw.path.steps.length ≤ 8 ∧ raw.fs.length ≤ 12 ∧ raw.cs.length ≤ 80
    · obtain ⟨hr8a, hr8b, hr8c⟩ := hr8
      obtain ⟨⟨j1, j2⟩, j3, j4⟩ := joined_ok (l := t) (most := 3) (p := 0) (by omega) (Nat.zero_le _)
      have spJ := joined_spec t 3 0 (by omega) (Nat.zero_le _)
      generalize (joinedF t 3 0).1 = L at *
      generalize (joinedF t 3 0).2 = q at *
      have j2 : L.length ≤ 3 := j2
      have hlist := listB_J j3 (by omega)
      have hrj := refs_J j3 (by omega) t q
      have spS := some_own t L q hlist (by omega) (by omega) j4 hrj.1 (by omega)
      have hlen := someF_len t L q j4
      generalize (someF t L q).2 = q2 at *
      generalize hv0 : (someF t L q).1 = v0 at *
      obtain ⟨p0, F0, C0⟩ := v0
      simp only at hlen spS
      clear hv0
      have hLl := tblRows_len L
      have hFl := fltRows_len F0
      have hCl := rfRows_len C0
      refine gEn env Tryz.func4 fun Γ hN hK hML => ?_
      (refine gGo ?_; intros)
      (refine gPC (spL) ?_; conv => whnf)
      (refine gGo ?_; intros)
      (refine gCA [] [(5, 70)] [] (roll_spec t) ?_; conv => whnf)
      (refine gGo ?_; intros)
      (refine gCA [(0, 70)] [] [] (spJ) ?_; conv => whnf)
      (refine gGo ?_; intros)
      (refine gCA [(0, 70)] [(93, 93), (94, 94)] [] (spS) ?_; conv => whnf)
      (refine gGs ?_; intros)
      refine W.leG (mp := [(6, 6), (13, 13), (93, 93), (94, 94)]) (bo := []) (st' := ⟨[(2, .int .i64 what), (3, .int .i64 at'), (4, .int .i64 by'), (6, .bp 6 0), (12, .sl (tblRows L) false), (13, .bp 13 0)], [(6, [.rows 4 [raw.row] none]), (13, [.rows 4 [[.int .i64 p0.start, .sl (stpRows p0.steps) false, .osl 93 0 0 (fltRows F0).length (fltRows F0).length, .osl 94 0 0 (rfRows C0).length (rfRows C0).length]] none]), (93, [.rows 4 (fltRows F0) (some [])]), (94, [.rows 2 (rfRows C0) (some [])])], [6, 13, 93, 94]⟩)
        (LeG.mq (.ci 6 (.ci 13 (.ci 93 (.ci 94 .nil))))) ?_
      (refine gGo ?_; intros)
      (refine gPC (spM9) ?_; conv => whnf)
      (refine gGs ?_; intros)
      refine gB ?_
      refine gA ?_
      by_cases w0 : modK what 9 = 0
      · refine gE env hN (by kernel_rfl) ?_
        conv => whnf
        (refine gGs ?_; intros)
        refine gC rfl ?_
        refine gE env hN (by kernel_rfl) ?_
        conv => whnf
        (refine gGs ?_; intros)
        refine W.leG (mp := [(13, 13)]) (bo := [93, 94]) (st' := ⟨[(12, .sl (tblRows L) false), (13, .bp 13 0)], [(13, [.rows 4 [Vw.row (raw)] none])], [13]⟩)
          (LeG.mq (.cons 13 (b1 := .rows 4 [Vw.row (raw)] none) rfl rfl (.rows _ _ _ (by repeat' (first | exact trivial | exact ⟨Lent.refl _, rfl⟩ | exact ⟨Lent.norm _, rfl⟩ | exact ⟨Lent.whole rfl rfl (by first | rfl | exact List.length_append.symm | exact hlenR | simp) rfl (by first | exact .inl rfl | exact .inr rfl), rfl⟩ | apply And.intro))) rfl .nil)) ?_
        exact evaluates_tail hN hK hML L (raw) spA
      by_cases w1 : modK what 9 = 1
      · by_cases hn : 0 < (fltRows F0).length
        · have spL1 := mod_spec at' ((fltRows F0).length : Nat) (by omega)
          have spB5 := mod_spec by' 5 (by decide)
          have spB4 := mod_spec (by'.tdiv 5) 4 (by decide)
          have spB7 := mod_spec by' 7 (by decide)
          have rB4 := modK_range (n := by'.tdiv 5) (m := 4)
          have rB7 := modK_range (n := by') (m := 7)
          have rL := modK_range (n := at') (m := ((fltRows F0).length : Nat))
          obtain ⟨i, hi⟩ := Int.eq_ofNat_of_zero_le rL.1
          rw [hi] at rL spL1
          have hil : i < F0.length := by omega
          have hsg := fltRows_get hil
          refine gE env hN (by kernel_rfl) ?_
          conv => whnf
          (refine gGs ?_; intros)
          refine gD rfl ?_
          refine gA ?_
          refine gE env hN (by kernel_rfl) ?_
          conv => whnf
          (refine gGs ?_; intros)
          refine gC rfl ?_
          refine gE env hN (by kernel_rfl) ?_
          conv => whnf
          (refine gGs ?_; intros)
          (refine gPC (spL1) ?_; conv => whnf)
          (refine gGs ?_; intros)
          (refine gPC (spB7) ?_; conv => whnf)
          (refine gGs ?_; intros)
          refine rowAt_of (r := F0[i].row) (by simpa using hsg) ?_
          conv => whnf
          (refine gGs ?_; intros)
          obtain ⟨q1, hq1⟩ : ∃ q1, q1 = F0.set i (⟨F0[i].r, modK by' 7 - 1, F0[i].text⟩) := ⟨_, rfl⟩
          have hset : (fltRows F0).set (0 + ((i : Nat) : Int).toNat) (Flt.row (⟨F0[i].r, modK by' 7 - 1, F0[i].text⟩)) = fltRows q1 := by
            rw [hq1, Nat.zero_add, Int.toNat_natCast]
            unfold fltRows
            rw [List.map_set]
          clear hq1
          refine W.leG (mp := [(13, 13)]) (bo := [93, 94]) (st' := ⟨[(12, .sl (tblRows L) false), (13, .bp 13 0)], [(13, [.rows 4 [Vw.row ((Vw.mk p0 q1 C0))] none])], [13]⟩)
            (LeG.mq (.cons 13 (b1 := .rows 4 [Vw.row (Vw.mk p0 q1 C0)] none) rfl rfl (.rows _ _ _ (by repeat' (first | exact trivial | exact ⟨.refl _, rfl⟩ | exact ⟨Lent.whole rfl rfl rfl rfl (.inl rfl), rfl⟩ | exact ⟨(by rw [← hset]; exact Lent.whole rfl rfl (by rw [List.length_set]) rfl (.inl rfl)), rfl⟩ | apply And.intro))) rfl .nil)) ?_
          exact evaluates_tail hN hK hML L (Vw.mk p0 q1 C0) spA
        · refine gE env hN (by kernel_rfl) ?_
          conv => whnf
          (refine gGs ?_; intros)
          refine gD rfl ?_
          refine gA ?_
          refine gE env hN (by kernel_rfl) ?_
          conv => whnf
          (refine gGs ?_; intros)
          refine gD rfl ?_
          refine gA ?_
          refine gE env hN (by kernel_rfl) ?_
          conv => whnf
          (refine gGs ?_; intros)
          refine gD rfl ?_
          refine gA ?_
          refine gE env hN (by kernel_rfl) ?_
          conv => whnf
          (refine gGs ?_; intros)
          refine gD rfl ?_
          refine gA ?_
          refine gE env hN (by kernel_rfl) ?_
          conv => whnf
          (refine gGs ?_; intros)
          refine gD rfl ?_
          refine gA ?_
          refine gE env hN (by kernel_rfl) ?_
          conv => whnf
          (refine gGs ?_; intros)
          refine gD rfl ?_
          refine gA ?_
          refine gE env hN (by kernel_rfl) ?_
          conv => whnf
          (refine gGs ?_; intros)
          refine gD rfl ?_
          refine gF ?_
          conv => whnf
          refine W.leG (mp := [(13, 13)]) (bo := [93, 94]) (st' := ⟨[(12, .sl (tblRows L) false), (13, .bp 13 0)], [(13, [.rows 4 [Vw.row ((Vw.mk p0 F0 C0))] none])], [13]⟩)
            (LeG.mq (.cons 13 (b1 := .rows 4 [Vw.row ((Vw.mk p0 F0 C0))] none) rfl rfl (.rows _ _ _ (by repeat' (first | exact trivial | exact ⟨Lent.refl _, rfl⟩ | exact ⟨Lent.norm _, rfl⟩ | exact ⟨Lent.whole rfl rfl (by first | rfl | exact List.length_append.symm | exact hlenR | simp) rfl (by first | exact .inl rfl | exact .inr rfl), rfl⟩ | apply And.intro))) rfl .nil)) ?_
          exact evaluates_tail hN hK hML L ((Vw.mk p0 F0 C0)) spA
      by_cases w2 : modK what 9 = 2
      · by_cases hn : 0 < (fltRows F0).length
        · have spL1 := mod_spec at' ((fltRows F0).length : Nat) (by omega)
          have spB5 := mod_spec by' 5 (by decide)
          have spB4 := mod_spec (by'.tdiv 5) 4 (by decide)
          have spB7 := mod_spec by' 7 (by decide)
          have rB4 := modK_range (n := by'.tdiv 5) (m := 4)
          have rB7 := modK_range (n := by') (m := 7)
          have rL := modK_range (n := at') (m := ((fltRows F0).length : Nat))
          obtain ⟨i, hi⟩ := Int.eq_ofNat_of_zero_le rL.1
          rw [hi] at rL spL1
          have hil : i < F0.length := by omega
          have hsg := fltRows_get hil
          refine gE env hN (by kernel_rfl) ?_
          conv => whnf
          (refine gGs ?_; intros)
          refine gD rfl ?_
          refine gA ?_
          refine gE env hN (by kernel_rfl) ?_
          conv => whnf
          (refine gGs ?_; intros)
          refine gD rfl ?_
          refine gA ?_
          refine gE env hN (by kernel_rfl) ?_
          conv => whnf
          (refine gGs ?_; intros)
          refine gC rfl ?_
          refine gE env hN (by kernel_rfl) ?_
          conv => whnf
          (refine gGs ?_; intros)
          (refine gPC (spL1) ?_; conv => whnf)
          (refine gGs ?_; intros)
          (refine gPC (spB5) ?_; conv => whnf)
          (refine gGs ?_; intros)
          (refine gPC (spB4) ?_; conv => whnf)
          (refine gGs ?_; intros)
          refine rowAt_of (r := F0[i].row) (by simpa using hsg) ?_
          conv => whnf
          (refine gGs ?_; intros)
          obtain ⟨q1, hq1⟩ : ∃ q1, q1 = F0.set i (⟨⟨modK by' 5, modK (by'.tdiv 5) 4 - 1⟩, F0[i].kind, F0[i].text⟩) := ⟨_, rfl⟩
          have hset : (fltRows F0).set (0 + ((i : Nat) : Int).toNat) (Flt.row (⟨⟨modK by' 5, modK (by'.tdiv 5) 4 - 1⟩, F0[i].kind, F0[i].text⟩)) = fltRows q1 := by
            rw [hq1, Nat.zero_add, Int.toNat_natCast]
            unfold fltRows
            rw [List.map_set]
          clear hq1
          refine W.leG (mp := [(13, 13)]) (bo := [93, 94]) (st' := ⟨[(12, .sl (tblRows L) false), (13, .bp 13 0)], [(13, [.rows 4 [Vw.row ((Vw.mk p0 q1 C0))] none])], [13]⟩)
            (LeG.mq (.cons 13 (b1 := .rows 4 [Vw.row (Vw.mk p0 q1 C0)] none) rfl rfl (.rows _ _ _ (by repeat' (first | exact trivial | exact ⟨.refl _, rfl⟩ | exact ⟨Lent.whole rfl rfl rfl rfl (.inl rfl), rfl⟩ | exact ⟨(by rw [← hset]; exact Lent.whole rfl rfl (by rw [List.length_set]) rfl (.inl rfl)), rfl⟩ | apply And.intro))) rfl .nil)) ?_
          exact evaluates_tail hN hK hML L (Vw.mk p0 q1 C0) spA
        · refine gE env hN (by kernel_rfl) ?_
          conv => whnf
          (refine gGs ?_; intros)
          refine gD rfl ?_
          refine gA ?_
          refine gE env hN (by kernel_rfl) ?_
          conv => whnf
          (refine gGs ?_; intros)
          refine gD rfl ?_
          refine gA ?_
          refine gE env hN (by kernel_rfl) ?_
          conv => whnf
          (refine gGs ?_; intros)
          refine gD rfl ?_
          refine gA ?_
          refine gE env hN (by kernel_rfl) ?_
          conv => whnf
          (refine gGs ?_; intros)
          refine gD rfl ?_
          refine gA ?_
          refine gE env hN (by kernel_rfl) ?_
          conv => whnf
          (refine gGs ?_; intros)
          refine gD rfl ?_
          refine gA ?_
          refine gE env hN (by kernel_rfl) ?_
          conv => whnf
          (refine gGs ?_; intros)
          refine gD rfl ?_
          refine gA ?_
          refine gE env hN (by kernel_rfl) ?_
          conv => whnf
          (refine gGs ?_; intros)
          refine gD rfl ?_
          refine gF ?_
          conv => whnf
          refine W.leG (mp := [(13, 13)]) (bo := [93, 94]) (st' := ⟨[(12, .sl (tblRows L) false), (13, .bp 13 0)], [(13, [.rows 4 [Vw.row ((Vw.mk p0 F0 C0))] none])], [13]⟩)
            (LeG.mq (.cons 13 (b1 := .rows 4 [Vw.row ((Vw.mk p0 F0 C0))] none) rfl rfl (.rows _ _ _ (by repeat' (first | exact trivial | exact ⟨Lent.refl _, rfl⟩ | exact ⟨Lent.norm _, rfl⟩ | exact ⟨Lent.whole rfl rfl (by first | rfl | exact List.length_append.symm | exact hlenR | simp) rfl (by first | exact .inl rfl | exact .inr rfl), rfl⟩ | apply And.intro))) rfl .nil)) ?_
          exact evaluates_tail hN hK hML L ((Vw.mk p0 F0 C0)) spA
      by_cases w3 : modK what 9 = 3
      · by_cases hn : 0 < (rfRows C0).length
        · have spL1 := mod_spec at' ((rfRows C0).length : Nat) (by omega)
          have spB5 := mod_spec by' 5 (by decide)
          have spB4 := mod_spec (by'.tdiv 5) 4 (by decide)
          have spB7 := mod_spec by' 7 (by decide)
          have rB4 := modK_range (n := by'.tdiv 5) (m := 4)
          have rB7 := modK_range (n := by') (m := 7)
          have rL := modK_range (n := at') (m := ((rfRows C0).length : Nat))
          obtain ⟨i, hi⟩ := Int.eq_ofNat_of_zero_le rL.1
          rw [hi] at rL spL1
          have hil : i < C0.length := by omega
          have hsg := rfRows_get hil
          refine gE env hN (by kernel_rfl) ?_
          conv => whnf
          (refine gGs ?_; intros)
          refine gD rfl ?_
          refine gA ?_
          refine gE env hN (by kernel_rfl) ?_
          conv => whnf
          (refine gGs ?_; intros)
          refine gD rfl ?_
          refine gA ?_
          refine gE env hN (by kernel_rfl) ?_
          conv => whnf
          (refine gGs ?_; intros)
          refine gD rfl ?_
          refine gA ?_
          refine gE env hN (by kernel_rfl) ?_
          conv => whnf
          (refine gGs ?_; intros)
          refine gC rfl ?_
          refine gE env hN (by kernel_rfl) ?_
          conv => whnf
          (refine gGs ?_; intros)
          (refine gPC (spL1) ?_; conv => whnf)
          (refine gGs ?_; intros)
          (refine gPC (spB5) ?_; conv => whnf)
          (refine gGs ?_; intros)
          (refine gPC (spB4) ?_; conv => whnf)
          (refine gGs ?_; intros)
          refine rowAt_of (r := C0[i].row) (by simpa using hsg) ?_
          conv => whnf
          (refine gGs ?_; intros)
          obtain ⟨q1, hq1⟩ : ∃ q1, q1 = C0.set i (⟨modK by' 5, modK (by'.tdiv 5) 4 - 1⟩) := ⟨_, rfl⟩
          have hset : (rfRows C0).set (0 + ((i : Nat) : Int).toNat) (Rf.row (⟨modK by' 5, modK (by'.tdiv 5) 4 - 1⟩)) = rfRows q1 := by
            rw [hq1, Nat.zero_add, Int.toNat_natCast]
            unfold rfRows
            rw [List.map_set]
          clear hq1
          refine W.leG (mp := [(13, 13)]) (bo := [93, 94]) (st' := ⟨[(12, .sl (tblRows L) false), (13, .bp 13 0)], [(13, [.rows 4 [Vw.row ((Vw.mk p0 F0 q1))] none])], [13]⟩)
            (LeG.mq (.cons 13 (b1 := .rows 4 [Vw.row (Vw.mk p0 F0 q1)] none) rfl rfl (.rows _ _ _ (by repeat' (first | exact trivial | exact ⟨.refl _, rfl⟩ | exact ⟨(by rw [← hset]; exact Lent.whole rfl rfl (by rw [List.length_set]) rfl (.inl rfl)), rfl⟩ | exact ⟨Lent.whole rfl rfl rfl rfl (.inl rfl), rfl⟩ | apply And.intro))) rfl .nil)) ?_
          exact evaluates_tail hN hK hML L (Vw.mk p0 F0 q1) spA
        · refine gE env hN (by kernel_rfl) ?_
          conv => whnf
          (refine gGs ?_; intros)
          refine gD rfl ?_
          refine gA ?_
          refine gE env hN (by kernel_rfl) ?_
          conv => whnf
          (refine gGs ?_; intros)
          refine gD rfl ?_
          refine gA ?_
          refine gE env hN (by kernel_rfl) ?_
          conv => whnf
          (refine gGs ?_; intros)
          refine gD rfl ?_
          refine gA ?_
          refine gE env hN (by kernel_rfl) ?_
          conv => whnf
          (refine gGs ?_; intros)
          refine gD rfl ?_
          refine gA ?_
          refine gE env hN (by kernel_rfl) ?_
          conv => whnf
          (refine gGs ?_; intros)
          refine gD rfl ?_
          refine gA ?_
          refine gE env hN (by kernel_rfl) ?_
          conv => whnf
          (refine gGs ?_; intros)
          refine gD rfl ?_
          refine gA ?_
          refine gE env hN (by kernel_rfl) ?_
          conv => whnf
          (refine gGs ?_; intros)
          refine gD rfl ?_
          refine gF ?_
          conv => whnf
          refine W.leG (mp := [(13, 13)]) (bo := [93, 94]) (st' := ⟨[(12, .sl (tblRows L) false), (13, .bp 13 0)], [(13, [.rows 4 [Vw.row ((Vw.mk p0 F0 C0))] none])], [13]⟩)
            (LeG.mq (.cons 13 (b1 := .rows 4 [Vw.row ((Vw.mk p0 F0 C0))] none) rfl rfl (.rows _ _ _ (by repeat' (first | exact trivial | exact ⟨Lent.refl _, rfl⟩ | exact ⟨Lent.norm _, rfl⟩ | exact ⟨Lent.whole rfl rfl (by first | rfl | exact List.length_append.symm | exact hlenR | simp) rfl (by first | exact .inl rfl | exact .inr rfl), rfl⟩ | apply And.intro))) rfl .nil)) ?_
          exact evaluates_tail hN hK hML L ((Vw.mk p0 F0 C0)) spA
      by_cases w4 : modK what 9 = 4
      · by_cases hn : 0 < (fltRows F0).length
        · have spB2 := mod_spec by' 2 (by decide)
          have rB2 := modK_range (n := by') (m := 2)
          refine gE env hN (by kernel_rfl) ?_
          conv => whnf
          (refine gGs ?_; intros)
          refine gD rfl ?_
          refine gA ?_
          refine gE env hN (by kernel_rfl) ?_
          conv => whnf
          (refine gGs ?_; intros)
          refine gD rfl ?_
          refine gA ?_
          refine gE env hN (by kernel_rfl) ?_
          conv => whnf
          (refine gGs ?_; intros)
          refine gD rfl ?_
          refine gA ?_
          refine gE env hN (by kernel_rfl) ?_
          conv => whnf
          (refine gGs ?_; intros)
          refine gD rfl ?_
          refine gA ?_
          refine gE env hN (by kernel_rfl) ?_
          conv => whnf
          (refine gGs ?_; intros)
          refine gC rfl ?_
          refine gE env hN (by kernel_rfl) ?_
          conv => whnf
          (refine gGs ?_; intros)
          (refine gPC (spB2) ?_; conv => whnf)
          (refine gGs ?_; intros)
          have rB2b := rB2.2 (by decide)
          refine ⟨⟨by omega, by omega, (by show (1024 + modK by' 2) * 1 ≤ _; omega), by omega⟩, ?_⟩
          conv => whnf
          (refine gGs ?_; intros)
          have hsg := fltRows_get (l := F0) (i := 0) (by omega)
          refine ⟨_, _, _, conv_zeros rfl (n := (1024 + modK by' 2).toNat) (by omega) (by omega) rfl rfl (by kernel_rfl), ?_⟩
          conv => whnf
          (refine gGs ?_; intros)
          generalize List.replicate (1024 + modK by' 2).toNat (0 : UInt8) = tx at *
          refine rowAt_of (r := F0[0].row) (by simpa using hsg) ?_
          conv => whnf
          (refine gGs ?_; intros)
          obtain ⟨q1, hq1⟩ : ∃ q1, q1 = F0.set 0 (⟨F0[0].r, F0[0].kind, tx⟩) := ⟨_, rfl⟩
          have hset : (fltRows F0).set (0 + ((0 : Nat) : Int).toNat) (Flt.row (⟨F0[0].r, F0[0].kind, tx⟩)) = fltRows q1 := by
            rw [hq1, Nat.zero_add, Int.toNat_natCast]
            unfold fltRows
            rw [List.map_set]
          clear hq1
          refine W.leG (mp := [(13, 13)]) (bo := [93, 94]) (st' := ⟨[(12, .sl (tblRows L) false), (13, .bp 13 0)], [(13, [.rows 4 [Vw.row ((Vw.mk p0 q1 C0))] none])], [13]⟩)
            (LeG.mq (.cons 13 (b1 := .rows 4 [Vw.row (Vw.mk p0 q1 C0)] none) rfl rfl (.rows _ _ _ (by repeat' (first | exact trivial | exact ⟨.refl _, rfl⟩ | exact ⟨Lent.whole rfl rfl rfl rfl (.inl rfl), rfl⟩ | exact ⟨(by rw [← hset]; exact Lent.whole rfl rfl (by rw [List.length_set]) rfl (.inl rfl)), rfl⟩ | apply And.intro))) rfl .nil)) ?_
          exact evaluates_tail hN hK hML L (Vw.mk p0 q1 C0) spA
        · refine gE env hN (by kernel_rfl) ?_
          conv => whnf
          (refine gGs ?_; intros)
          refine gD rfl ?_
          refine gA ?_
          refine gE env hN (by kernel_rfl) ?_
          conv => whnf
          (refine gGs ?_; intros)
          refine gD rfl ?_
          refine gA ?_
          refine gE env hN (by kernel_rfl) ?_
          conv => whnf
          (refine gGs ?_; intros)
          refine gD rfl ?_
          refine gA ?_
          refine gE env hN (by kernel_rfl) ?_
          conv => whnf
          (refine gGs ?_; intros)
          refine gD rfl ?_
          refine gA ?_
          refine gE env hN (by kernel_rfl) ?_
          conv => whnf
          (refine gGs ?_; intros)
          refine gD rfl ?_
          refine gA ?_
          refine gE env hN (by kernel_rfl) ?_
          conv => whnf
          (refine gGs ?_; intros)
          refine gD rfl ?_
          refine gA ?_
          refine gE env hN (by kernel_rfl) ?_
          conv => whnf
          (refine gGs ?_; intros)
          refine gD rfl ?_
          refine gF ?_
          conv => whnf
          refine W.leG (mp := [(13, 13)]) (bo := [93, 94]) (st' := ⟨[(12, .sl (tblRows L) false), (13, .bp 13 0)], [(13, [.rows 4 [Vw.row ((Vw.mk p0 F0 C0))] none])], [13]⟩)
            (LeG.mq (.cons 13 (b1 := .rows 4 [Vw.row ((Vw.mk p0 F0 C0))] none) rfl rfl (.rows _ _ _ (by repeat' (first | exact trivial | exact ⟨Lent.refl _, rfl⟩ | exact ⟨Lent.norm _, rfl⟩ | exact ⟨Lent.whole rfl rfl (by first | rfl | exact List.length_append.symm | exact hlenR | simp) rfl (by first | exact .inl rfl | exact .inr rfl), rfl⟩ | apply And.intro))) rfl .nil)) ?_
          exact evaluates_tail hN hK hML L ((Vw.mk p0 F0 C0)) spA
      by_cases w5 : modK what 9 = 5
      · have spB2 := mod_spec by' 2 (by decide)
        have rB2 := modK_range (n := by') (m := 2)
        have rB2b := rB2.2 (by decide)
        refine gE env hN (by kernel_rfl) ?_
        conv => whnf
        (refine gGs ?_; intros)
        refine gD rfl ?_
        refine gA ?_
        refine gE env hN (by kernel_rfl) ?_
        conv => whnf
        (refine gGs ?_; intros)
        refine gD rfl ?_
        refine gA ?_
        refine gE env hN (by kernel_rfl) ?_
        conv => whnf
        (refine gGs ?_; intros)
        refine gD rfl ?_
        refine gA ?_
        refine gE env hN (by kernel_rfl) ?_
        conv => whnf
        (refine gGs ?_; intros)
        refine gD rfl ?_
        refine gA ?_
        refine gE env hN (by kernel_rfl) ?_
        conv => whnf
        (refine gGs ?_; intros)
        refine gD rfl ?_
        refine gA ?_
        refine gE env hN (by kernel_rfl) ?_
        conv => whnf
        (refine gGs ?_; intros)
        refine gC rfl ?_
        refine gB ?_
        refine W.leG (mp := [(13, 13), (93, 93), (94, 94)]) (bo := []) (st' := ⟨[(4, .int .i64 by'), (12, .sl (tblRows L) false), (13, .bp 13 0)], [(13, [.rows 4 [[.int .i64 p0.start, .sl (stpRows p0.steps) false, .osl 93 0 0 (fltRows (F0)).length (fltRows (F0)).length, .osl 94 0 0 (rfRows (C0)).length (rfRows (C0)).length]] none]), (93, [.rows 4 (fltRows (F0)) (some [])]), (94, [.rows 2 (rfRows (C0)) (some [])])], [13, 93, 94]⟩)
          (LeG.mq (.ci 13 (.ci 93 (.ci 94 .nil)))) ?_
        refine W.loopG (fun m st => ∃ S : List Flt, S.length ≤ 9 ∧ m = 9 - S.length ∧ st = ⟨[(4, .int .i64 by'), (12, .sl (tblRows L) false), (13, .bp 13 0)], [(13, [.rows 4 [[.int .i64 p0.start, .sl (stpRows p0.steps) false, .osl 93 0 0 (fltRows (S)).length (fltRows (S)).length, .osl 94 0 0 (rfRows (C0)).length (rfRows (C0)).length]] none]), (93, [.rows 4 (fltRows (S)) (some [])]), (94, [.rows 2 (rfRows (C0)) (some [])])], [13, 93, 94]⟩)
          (9 - F0.length) _ ⟨F0, by omega, by omega, rfl⟩ ⟨[(13, 13), (93, 93), (94, 94)], [], [], .mq (.ci 13 (.ci 93 (.ci 94 .nil)))⟩ ?_
        rintro m st ⟨S, hS9, rfl, rfl⟩
        have hSl := fltRows_len S
        by_cases hS0 : 0 < S.length
        · have hg0 := fltRows_get hS0
          generalize hs0 : S[0] = s0 at *
          (refine gGo ?_; intros)
          (refine gPC (spB2) ?_; conv => whnf)
          (refine gGo ?_; intros)
          refine boolRes_split (fun hb => ?_) (fun hb => ?_) <;> conv => whnf
          · (refine gGo ?_; intros)
            refine rowAt_of (r := s0.row) (by simpa using hg0) ?_
            conv => whnf
            (refine gGo ?_; intros)
            refine ⟨⟨rowsSz_cons rfl rowsSz_nil, rfl⟩, fitsN (n := (fltRows S).length + 1) (b := 40) (by omega) (by omega), .inl ⟨rfl, rfl, ?_⟩⟩
            conv => whnf
            (refine gGo ?_; intros)
            refine ⟨_, _, ?_, ⟨S ++ [s0], by rw [List.length_append]; simp only [List.length_singleton]; omega, rfl, rfl⟩, [(13, 13), (93, 93), (94, 94)], [], [], LeG.mq (.cons 13 rfl rfl (.refl _) (by rw [fltRows_snoc, List.length_append]; rfl) (.cons 93 rfl rfl (.refl _) (by rw [fltRows_snoc]; rfl) (.ci 94 .nil)))⟩
            rw [List.length_append]; simp only [List.length_singleton]; omega
          · (refine gGs ?_; intros)
            refine gD rfl ?_
            refine gG ?_
            conv => whnf
            refine W.leG (mp := [(13, 13)]) (bo := [93, 94]) (st' := ⟨[(12, .sl (tblRows L) false), (13, .bp 13 0)], [(13, [.rows 4 [Vw.row ((Vw.mk p0 S C0))] none])], [13]⟩)
              (LeG.mq (.cons 13 (b1 := .rows 4 [Vw.row ((Vw.mk p0 S C0))] none) rfl rfl (.rows _ _ _ (by repeat' (first | exact trivial | exact ⟨Lent.refl _, rfl⟩ | exact ⟨Lent.norm _, rfl⟩ | exact ⟨Lent.whole rfl rfl (by first | rfl | exact List.length_append.symm | exact hlenR | simp) rfl (by first | exact .inl rfl | exact .inr rfl), rfl⟩ | apply And.intro))) rfl .nil)) ?_
            exact evaluates_tail hN hK hML L ((Vw.mk p0 S C0)) spA
        · refine gA ?_
          refine gA ?_
          (refine gE env hN (by kernel_rfl) ?_; conv => whnf)
          (refine gGs ?_; intros)
          refine gD rfl ?_
          refine gG ?_
          conv => whnf
          refine W.leG (mp := [(13, 13)]) (bo := [93, 94]) (st' := ⟨[(12, .sl (tblRows L) false), (13, .bp 13 0)], [(13, [.rows 4 [Vw.row ((Vw.mk p0 S C0))] none])], [13]⟩)
            (LeG.mq (.cons 13 (b1 := .rows 4 [Vw.row ((Vw.mk p0 S C0))] none) rfl rfl (.rows _ _ _ (by repeat' (first | exact trivial | exact ⟨Lent.refl _, rfl⟩ | exact ⟨Lent.norm _, rfl⟩ | exact ⟨Lent.whole rfl rfl (by first | rfl | exact List.length_append.symm | exact hlenR | simp) rfl (by first | exact .inl rfl | exact .inr rfl), rfl⟩ | apply And.intro))) rfl .nil)) ?_
          exact evaluates_tail hN hK hML L ((Vw.mk p0 S C0)) spA
      by_cases w6 : modK what 9 = 6
      · have spB2 := mod_spec by' 2 (by decide)
        have rB2 := modK_range (n := by') (m := 2)
        have rB2b := rB2.2 (by decide)
        refine gE env hN (by kernel_rfl) ?_
        conv => whnf
        (refine gGs ?_; intros)
        refine gD rfl ?_
        refine gA ?_
        refine gE env hN (by kernel_rfl) ?_
        conv => whnf
        (refine gGs ?_; intros)
        refine gD rfl ?_
        refine gA ?_
        refine gE env hN (by kernel_rfl) ?_
        conv => whnf
        (refine gGs ?_; intros)
        refine gD rfl ?_
        refine gA ?_
        refine gE env hN (by kernel_rfl) ?_
        conv => whnf
        (refine gGs ?_; intros)
        refine gD rfl ?_
        refine gA ?_
        refine gE env hN (by kernel_rfl) ?_
        conv => whnf
        (refine gGs ?_; intros)
        refine gD rfl ?_
        refine gA ?_
        refine gE env hN (by kernel_rfl) ?_
        conv => whnf
        (refine gGs ?_; intros)
        refine gD rfl ?_
        refine gA ?_
        refine gE env hN (by kernel_rfl) ?_
        conv => whnf
        (refine gGs ?_; intros)
        refine gC rfl ?_
        refine gB ?_
        refine W.leG (mp := [(13, 13), (93, 93), (94, 94)]) (bo := []) (st' := ⟨[(4, .int .i64 by'), (12, .sl (tblRows L) false), (13, .bp 13 0)], [(13, [.rows 4 [[.int .i64 p0.start, .sl (stpRows p0.steps) false, .osl 93 0 0 (fltRows (F0)).length (fltRows (F0)).length, .osl 94 0 0 (rfRows (C0)).length (rfRows (C0)).length]] none]), (93, [.rows 4 (fltRows (F0)) (some [])]), (94, [.rows 2 (rfRows (C0)) (some [])])], [13, 93, 94]⟩)
          (LeG.mq (.ci 13 (.ci 93 (.ci 94 .nil)))) ?_
        refine W.loopG (fun m st => ∃ S : List Rf, S.length ≤ 65 ∧ m = 65 - S.length ∧ st = ⟨[(4, .int .i64 by'), (12, .sl (tblRows L) false), (13, .bp 13 0)], [(13, [.rows 4 [[.int .i64 p0.start, .sl (stpRows p0.steps) false, .osl 93 0 0 (fltRows (F0)).length (fltRows (F0)).length, .osl 94 0 0 (rfRows (S)).length (rfRows (S)).length]] none]), (93, [.rows 4 (fltRows (F0)) (some [])]), (94, [.rows 2 (rfRows (S)) (some [])])], [13, 93, 94]⟩)
          (65 - C0.length) _ ⟨C0, by omega, by omega, rfl⟩ ⟨[(13, 13), (93, 93), (94, 94)], [], [], .mq (.ci 13 (.ci 93 (.ci 94 .nil)))⟩ ?_
        rintro m st ⟨S, hS9, rfl, rfl⟩
        have hSl := rfRows_len S
        by_cases hS0 : 0 < S.length
        · have hg0 := rfRows_get hS0
          generalize hs0 : S[0] = s0 at *
          (refine gGo ?_; intros)
          (refine gPC (spB2) ?_; conv => whnf)
          (refine gGo ?_; intros)
          refine boolRes_split (fun hb => ?_) (fun hb => ?_) <;> conv => whnf
          · (refine gGo ?_; intros)
            refine rowAt_of (r := s0.row) (by simpa using hg0) ?_
            conv => whnf
            (refine gGo ?_; intros)
            refine ⟨⟨rowsSz_cons rfl rowsSz_nil, rfl⟩, fitsN (n := (rfRows S).length + 1) (b := 16) (by omega) (by omega), .inl ⟨rfl, rfl, ?_⟩⟩
            conv => whnf
            (refine gGo ?_; intros)
            refine ⟨_, _, ?_, ⟨S ++ [s0], by rw [List.length_append]; simp only [List.length_singleton]; omega, rfl, rfl⟩, [(13, 13), (93, 93), (94, 94)], [], [], LeG.mq (.cons 13 rfl rfl (.refl _) (by rw [rfRows_snoc, List.length_append]; rfl) (.ci 93 (.cons 94 rfl rfl (.refl _) (by rw [rfRows_snoc]; rfl) .nil)))⟩
            rw [List.length_append]; simp only [List.length_singleton]; omega
          · (refine gGs ?_; intros)
            refine gD rfl ?_
            refine gG ?_
            conv => whnf
            refine W.leG (mp := [(13, 13)]) (bo := [93, 94]) (st' := ⟨[(12, .sl (tblRows L) false), (13, .bp 13 0)], [(13, [.rows 4 [Vw.row ((Vw.mk p0 F0 S))] none])], [13]⟩)
              (LeG.mq (.cons 13 (b1 := .rows 4 [Vw.row ((Vw.mk p0 F0 S))] none) rfl rfl (.rows _ _ _ (by repeat' (first | exact trivial | exact ⟨Lent.refl _, rfl⟩ | exact ⟨Lent.norm _, rfl⟩ | exact ⟨Lent.whole rfl rfl (by first | rfl | exact List.length_append.symm | exact hlenR | simp) rfl (by first | exact .inl rfl | exact .inr rfl), rfl⟩ | apply And.intro))) rfl .nil)) ?_
            exact evaluates_tail hN hK hML L ((Vw.mk p0 F0 S)) spA
        · refine gA ?_
          refine gA ?_
          (refine gE env hN (by kernel_rfl) ?_; conv => whnf)
          (refine gGs ?_; intros)
          refine gD rfl ?_
          refine gG ?_
          conv => whnf
          refine W.leG (mp := [(13, 13)]) (bo := [93, 94]) (st' := ⟨[(12, .sl (tblRows L) false), (13, .bp 13 0)], [(13, [.rows 4 [Vw.row ((Vw.mk p0 F0 S))] none])], [13]⟩)
            (LeG.mq (.cons 13 (b1 := .rows 4 [Vw.row ((Vw.mk p0 F0 S))] none) rfl rfl (.rows _ _ _ (by repeat' (first | exact trivial | exact ⟨Lent.refl _, rfl⟩ | exact ⟨Lent.norm _, rfl⟩ | exact ⟨Lent.whole rfl rfl (by first | rfl | exact List.length_append.symm | exact hlenR | simp) rfl (by first | exact .inl rfl | exact .inr rfl), rfl⟩ | apply And.intro))) rfl .nil)) ?_
          exact evaluates_tail hN hK hML L ((Vw.mk p0 F0 S)) spA
      refine gE env hN (by kernel_rfl) ?_
      conv => whnf
      (refine gGs ?_; intros)
      refine gD rfl ?_
      refine gA ?_
      refine gE env hN (by kernel_rfl) ?_
      conv => whnf
      (refine gGs ?_; intros)
      refine gD rfl ?_
      refine gA ?_
      refine gE env hN (by kernel_rfl) ?_
      conv => whnf
      (refine gGs ?_; intros)
      refine gD rfl ?_
      refine gA ?_
      refine gE env hN (by kernel_rfl) ?_
      conv => whnf
      (refine gGs ?_; intros)
      refine gD rfl ?_
      refine gA ?_
      refine gE env hN (by kernel_rfl) ?_
      conv => whnf
      (refine gGs ?_; intros)
      refine gD rfl ?_
      refine gA ?_
      refine gE env hN (by kernel_rfl) ?_
      conv => whnf
      (refine gGs ?_; intros)
      refine gD rfl ?_
      refine gA ?_
      refine gE env hN (by kernel_rfl) ?_
      conv => whnf
      (refine gGs ?_; intros)
      refine gD rfl ?_
      refine gF ?_
      conv => whnf
      refine W.leG (mp := [(13, 13)]) (bo := [93, 94]) (st' := ⟨[(12, .sl (tblRows L) false), (13, .bp 13 0)], [(13, [.rows 4 [Vw.row ((Vw.mk p0 F0 C0))] none])], [13]⟩)
        (LeG.mq (.cons 13 (b1 := .rows 4 [Vw.row ((Vw.mk p0 F0 C0))] none) rfl rfl (.rows _ _ _ (by repeat' (first | exact trivial | exact ⟨Lent.refl _, rfl⟩ | exact ⟨Lent.norm _, rfl⟩ | exact ⟨Lent.whole rfl rfl (by first | rfl | exact List.length_append.symm | exact hlenR | simp) rfl (by first | exact .inl rfl | exact .inr rfl), rfl⟩ | apply And.intro))) rfl .nil)) ?_
      exact evaluates_tail hN hK hML L ((Vw.mk p0 F0 C0)) spA
    · refine gEn env Tryz.func4 fun Γ hN hK hML => ?_
      by_cases d1 : raw.path.steps.length ≤ 8
      · by_cases d2 : raw.fs.length ≤ 12
        · (refine gGo ?_; intros)
          (refine gPC (spL) ?_; conv => whnf)
          (refine gGo ?_; intros)
          (refine gPC (spA) ?_; conv => whnf)
          (refine gGr ?_; intros)
          exact ret0 rfl rfl rfl
        · (refine gGo ?_; intros)
          (refine gPC (spL) ?_; conv => whnf)
          (refine gGo ?_; intros)
          (refine gPC (spA) ?_; conv => whnf)
          (refine gGr ?_; intros)
          exact ret0 rfl rfl rfl
      · (refine gGo ?_; intros)
        (refine gPC (spL) ?_; conv => whnf)
        (refine gGo ?_; intros)
        (refine gPC (spA) ?_; conv => whnf)
        (refine gGr ?_; intros)
        exact ret0 rfl rfl rfl
  · rw [decide_eq_false hll] at spL
    refine gEn env Tryz.func4 fun Γ hN hK hML => ?_
    (refine gGo ?_; intros)
    (refine gPC (spL) ?_; conv => whnf)
    (refine gGo ?_; intros)
    (refine gPC (spA) ?_; conv => whnf)
    (refine gGr ?_; intros)
    exact ret0 rfl rfl rfl
end Go.Sx.Sp
namespace Go.Sx.Sp
open Go Go.Sx Go.Proofs
attribute [local irreducible] GoodW famL
theorem evaluates_calls {w : World} {v0 v1 v2 v3 v4 : Value} {u0 u1 u2 u3 u4 : V} (r0 : VRel w (fun _ => False) (fun _ _ => none) u0 v0) (r1 : VRel w (fun _ => False) (fun _ _ => none) u1 v1) (r2 : VRel w (fun _ => False) (fun _ _ => none) u2 v2) (r3 : VRel w (fun _ => False) (fun _ _ => none) u3 v3) (r4 : VRel w (fun _ => False) (fun _ _ => none) u4 v4)
    (a0 : argShape T 2 22 u0) (a1 : argShape T 6 42 u1) (a2 : argShape T 1 3 u2) (a3 : argShape T 1 3 u3) (a4 : argShape T 1 3 u4) (hg : GRel w (fun _ => False)) :
    Calls Tryz.prog 4 #[v0, v1, v2, v3, v4] w fun e w' => e = .returned (.bool true) ∧ Go.RowKit.Below w.heap.size w w' := by
  obtain ⟨l, rfl⟩ := arg_ints a0
  obtain ⟨p, rfl⟩ := arg_view a1
  obtain ⟨n, rfl, _⟩ := arg_int a2
  obtain ⟨n3, rfl, _⟩ := arg_int a3
  obtain ⟨n4, rfl, hb4⟩ := arg_int a4
  refine Spec.law (evaluates_law l p n n3 n4 hb4) (cargs := [v0, v1, v2, v3, v4]) rfl (fun j u c hj hc => ?_) rfl hg
  match j with
  | 0 => cases hj; cases hc; exact r0
  | 1 => cases hj; cases hc; exact r1
  | 2 => cases hj; cases hc; exact r2
  | 3 => cases hj; cases hc; exact r3
  | 4 => cases hj; cases hc; exact r4
  | j + 5 => cases hj
end Go.Sx.Sp
