/- The same rows, and choosing rows. -/
import Derived.Test.YtoelhfbammpjeaaGreatDoorDTwo
import Derived.Test.YtoelhfbammpjeaaGreatDoorSxFour
set_option linter.unusedVariables false
set_option linter.unusedSimpArgs false
namespace Go.Sx.Sp
open Go Go.Sx Go.Proofs
attribute [local irreducible] GoodW
def cmpS (a b : Str) : Int := if Op.bytesLess a b = true then -1 else if Op.bytesLess a b = false ∧ a ≠ b then 1 else 0
def cmpC (a b : Cell) : Int := if a.null = true then (if b.null = true then 0 else -1) else if b.null = true then 1 else cmpS a.text b.text
set_option maxHeartbeats 2000000 in
theorem cmpCell_spec (a b : Cell) : Spec Tryz.prog 79 [.agg a.row, .agg b.row] [] (.int .i64 (cmpC a b)) [] := by
  unfold cmpC
  obtain ⟨an, at'⟩ := a
  obtain ⟨bn, bt⟩ := b
  cases an <;> cases bn
  · show Spec _ _ _ _ (.int .i64 (cmpS at' bt)) _
    refine gEn env Tryz.func79 fun Γ hN hK hML => ?_
    (refine gGo ?_; intros)
    refine boolRes_split (fun hb => ?_) (fun hb => ?_) <;> conv => whnf
    · have hT : cmpS at' bt = -1 := by unfold cmpS; rw [if_pos hb]
      (refine gGr ?_; intros)
      exact ret0 rfl (by rw [hT]; rfl) rfl
    · (refine gGo ?_; intros)
      refine boolRes_split (fun hb => ?_) (fun hb => ?_) <;> conv => whnf
      · have hT : cmpS at' bt = 1 := by unfold cmpS; rw [if_neg (by assumption), if_pos hb]
        (refine gGr ?_; intros)
        exact ret0 rfl (by rw [hT]; rfl) rfl
      · have hT : cmpS at' bt = 0 := by unfold cmpS; rw [if_neg (by assumption), if_neg hb]
        (refine gGr ?_; intros)
        exact ret0 rfl (by rw [hT]; rfl) rfl
  · refine gEn env Tryz.func79 fun Γ hN hK hML => ?_
    (refine gGo ?_; intros)
    (refine gGr ?_; intros)
    exact ret0 rfl rfl rfl
  · refine gEn env Tryz.func79 fun Γ hN hK hML => ?_
    (refine gGo ?_; intros)
    (refine gGr ?_; intros)
    exact ret0 rfl rfl rfl
  · refine gEn env Tryz.func79 fun Γ hN hK hML => ?_
    (refine gGo ?_; intros)
    (refine gGr ?_; intros)
    exact ret0 rfl rfl rfl
end Go.Sx.Sp
namespace Go.Sx.Sp
open Go Go.Sx Go.Proofs
attribute [local irreducible] GoodW
end Go.Sx.Sp
namespace Go.Sx.Sp
open Go Go.Sx Go.Proofs
attribute [local irreducible] GoodW
def natL (rs : List Nat) : List Int := rs.map fun n : Nat => (n : Int)
theorem natL_len (rs : List Nat) : (natL rs).length = rs.length := by simp [natL]
theorem natL_get {rs : List Nat} {i : Nat} (h : i < rs.length) : (intRows .i64 (natL rs))[i]? = some [.int .i64 (rs[i] : Nat)] := by
  rw [intRows_get (k := .i64) (by rw [natL_len]; exact h)]
  simp [natL]
theorem natLRows_len (rs : List Nat) : (intRows .i64 (natL rs)).length = rs.length := by rw [intRows_len, natL_len]
set_option maxHeartbeats 1000000 in
theorem within1_spec (i n : Nat) (h : i < n) : Spec Tryz.prog 104 [.int .i64 (i : Nat), .ro [.int .i64 (n : Nat)] 0] [] (.bool true) [] := by
  refine gEn env Tryz.func104 fun Γ hN hK hML => ?_
  (refine gGo ?_; intros)
  (refine gGr ?_; intros)
  exact ret0 rfl rfl rfl
set_option maxHeartbeats 2000000 in
theorem everyInt_spec (rs : List Nat) (n : Nat) (h : ∀ i ∈ rs, i < n) : Spec Tryz.prog 103 [.sl (intRows .i64 (natL rs)) false, .fn 104 [.ro [.int .i64 (n : Nat)] 0]] [] (.bool true) [] := by
  have hl := natLRows_len rs
  refine gEn env Tryz.func103 fun Γ hN hK hML => ?_
  (refine gGo ?_; intros)
  refine W.loopG (fun m st => ∃ k : Nat, k ≤ rs.length ∧ m = rs.length - k ∧ st = ⟨[(1, .fn 104 [.ro [.int .i64 (n : Nat)] 0]), (7, .sl (intRows .i64 (natL rs)) false), (8, .int .i64 (intRows .i64 (natL rs)).length), (9, .int .i64 k)], [], []⟩)
    rs.length _ ⟨0, Nat.zero_le _, by omega, rfl⟩ ⟨[], [], [], .mq .nil⟩ ?_
  rintro m st ⟨k, hk, rfl, rfl⟩
  (refine gGo ?_; intros)
  refine boolRes_split (fun hb => ?_) (fun hb => ?_) <;> conv => whnf
  · have hlt : k < rs.length := by omega
    have hget := natL_get hlt
    have sp := within1_spec rs[k] n (h _ (List.getElem_mem hlt))
    generalize rs[k] = c at *
    (refine gGo ?_; intros)
    refine rowAt_of hget ?_
    conv => whnf
    (refine gGo ?_; intros)
    (refine gPC (sp) ?_; conv => whnf)
    (refine gGo ?_; intros)
    refine ⟨_, _, ?_, ⟨k + 1, by omega, rfl, rfl⟩, ⟨[], [], [], .mq .nil⟩⟩
    omega
  · (refine gGr ?_; intros)
    exact ret0 rfl rfl rfl
set_option maxHeartbeats 1000000 in
theorem within_spec (rs : List Nat) (n : Nat) (h : ∀ i ∈ rs, i < n) : Spec Tryz.prog 76 [.sl (intRows .i64 (natL rs)) false, .int .i64 (n : Nat)] [] (.bool true) [] := by
  have sp := everyInt_spec rs n h
  refine gEn env Tryz.func76 fun Γ hN hK hML => ?_
  refine gA ?_
  (refine gE env hN (by kernel_rfl) ?_; conv => whnf)
  (refine gGs ?_; intros)
  refine gA ?_
  refine W.leG (mp := []) (bo := [3]) (st' := ⟨[(0, .sl (intRows .i64 (natL rs)) false), (3, .ro [.int .i64 (n : Nat)] 0)], [], []⟩)
    (LeG.mk' rfl rfl rfl ⟨⟨_, .refl _, rfl⟩, ⟨_, .bp 3 0 1 [.int .i64 (n : Nat)] none rfl rfl (by simp) (.inr rfl), rfl⟩, trivial⟩ .nil rfl rfl (by rw [hK]; rfl)) ?_
  (refine gGo ?_; intros)
  (refine gPC (sp) ?_; conv => whnf)
  (refine gGr ?_; intros)
  exact ret0 rfl rfl rfl
def selC (c : Column) (rs : List Nat) : Column := ⟨c.name, rs.map (cellAt c)⟩
def selT (t : Table) (rs : List Nat) : Table := ⟨t.id, t.name, t.cols.map fun c => selC c rs⟩
theorem cellRows_snocS (a : List Cell) (c : Cell) : cellRows (a ++ [c]) = cellRows a ++ [c.row] := by simp [cellRows]
theorem colRows_snocS (a : List Column) (c : Column) : colRows (a ++ [c]) = colRows a ++ [c.row] := by simp [colRows]
set_option maxHeartbeats 4000000 in
theorem select1_spec (t : Table) (rs : List Nat) (j : Nat) (hj : j < t.cols.length) (h : ∀ i ∈ rs, i < (t.cols[j]).cells.length) (hn : rs.length ≤ 4294967295) : Spec Tryz.prog 78 [.int .i64 (j : Nat), .ro t.row 0, .ro [.sl (intRows .i64 (natL rs)) false] 0] [] (.agg (selC t.cols[j] rs).row) [] := by
  have hx := colRows_get hj
  have hl := colRows_len t.cols
  have hr := natLRows_len rs
  generalize t.cols[j] = c at *
  refine gEn env Tryz.func78 fun Γ hN hK hML => ?_
  (refine gGo ?_; intros)
  refine rowAt_of (by simpa using hx) ?_
  conv => whnf
  (refine gGo ?_; intros)
  refine W.ownCell 5 0 1 90 2 rfl rfl rfl rfl rfl ?_
  refine W.loopG (fun m st => ∃ k : Nat, k ≤ rs.length ∧ m = rs.length - k ∧ st = ⟨[(0, .int .i64 (j : Nat)), (1, .ro t.row 0), (2, .ro [.sl (intRows .i64 (natL rs)) false] 0), (4, .bp 4 0), (5, .bp 5 0), (15, .sl (intRows .i64 (natL rs)) false), (16, .int .i64 (intRows .i64 (natL rs)).length), (17, .int .i64 k)],
      [(4, [.rows 2 [[.str [], .nils]] none]), (5, [.rows 2 [[.str c.name, .osl 90 0 0 k k]] none]), (90, [.rows 2 (cellRows ((rs.take k).map (cellAt c))) (some [])])], [4, 5, 90]⟩)
    rs.length _ ⟨0, by omega, by omega, rfl⟩ ⟨[(4, 4), (5, 5), (90, 90)], [], [], .mq (.ci 4 (.ci 5 (.ci 90 .nil)))⟩ ?_
  rintro m st ⟨k, hk, rfl, rfl⟩
  (refine gGo ?_; intros)
  refine boolRes_split (fun hb => ?_) (fun hb => ?_) <;> conv => whnf
  · have hlt : k < rs.length := by omega
    have hg := natL_get hlt
    have hi := h _ (List.getElem_mem hlt)
    have hsn : (rs.take (k + 1)).map (cellAt c) = (rs.take k).map (cellAt c) ++ [cellAt c rs[k]] := by
      rw [List.take_succ_eq_append_getElem hlt, List.map_append]; rfl
    have hcl : (cellRows ((rs.take k).map (cellAt c))).length = k := by rw [cellRows_len, List.length_map, List.length_take]; omega
    generalize rs[k] = i at *
    have hca : cellAt c i = c.cells[i] := by simp [cellAt, hi]
    have hgc := cellRows_get hi
    have hcc := cellRows_len c.cells
    rw [hca] at hsn
    generalize c.cells[i] = x at *
    (refine gGo ?_; intros)
    refine rowAt_of hg ?_
    conv => whnf
    (refine gGo ?_; intros)
    refine rowAt_of (by simpa using hx) ?_
    conv => whnf
    (refine gGo ?_; intros)
    refine rowAt_of (by simpa using hgc) ?_
    conv => whnf
    (refine gGo ?_; intros)
    refine ⟨⟨rowsSz_cons rfl rowsSz_nil, hcl.symm⟩, fitN (n := k + 1) (b := 24) (by omega) (by omega), .inl ⟨rfl, rfl, ?_⟩⟩
    conv => whnf
    (refine gGo ?_; intros)
    refine ⟨_, _, ?_, ⟨k + 1, by omega, rfl, rfl⟩, [(4, 4), (5, 5), (90, 90)], [], [], LeG.mq (.ci 4 (.cons 5 rfl rfl (.refl _) ?_ (.cons 90 rfl rfl (.refl _) ?_ .nil)))⟩
    · omega
    · rfl
    · rw [hsn, cellRows_snocS]; rfl
  · have hke : k = rs.length := by omega
    have e2 : (rs.take k).map (cellAt c) = rs.map (cellAt c) := by rw [hke, List.take_length]
    have hcl : k = (cellRows (rs.map (cellAt c))).length := by rw [cellRows_len, List.length_map, hke]
    rw [e2]
    refine W.leG (mp := [(4, 4), (5, 5)]) (bo := [90]) (st' := ⟨[(4, .bp 4 0), (5, .bp 5 0), (18, .bool false)], [(4, [.rows 2 [[.str [], .nils]] none]), (5, [.rows 2 [(selC c rs).row] none])], [4, 5]⟩)
      (LeG.mq (.ci 4 (.cons 5 (b1 := .rows 2 [(selC c rs).row] none) rfl rfl (.rows _ _ _ ⟨⟨⟨.refl _, rfl⟩, ⟨Lent.whole rfl rfl hcl rfl (by first | exact .inl rfl | exact .inr rfl), rfl⟩, trivial⟩, trivial⟩) rfl .nil))) ?_
    (refine gGr ?_; intros)
    exact ret0 rfl rfl rfl
end Go.Sx.Sp
