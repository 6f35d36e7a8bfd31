/- Sorting a table by a key, and the law. -/
import Derived.Test.YtoelhfbammpjeaaGreatDoorETwo
import Derived.Test.YtoelhfbammpjeaaGreatDoorSxFour
set_option linter.unusedVariables false
set_option linter.unusedSimpArgs false
namespace Go.Sx.Sp
open Go Go.Sx Go.Proofs Go.Sort
attribute [local irreducible] GoodW
set_option maxHeartbeats 4000000 in
theorem withS_spec (t : Table) (rs : List Nat) (hn : t.cols.length ≤ 4294967295) (hr : rs.length ≤ 4294967295) (h : ∀ c ∈ t.cols, ∀ i ∈ rs, i < c.cells.length) : Spec Tryz.prog 77 [.agg t.row, .int .i64 t.cols.length, .fn 78 [.ro t.row 0, .ro [.sl (intRows .i64 (natL rs)) false] 0]] [] (.agg (selT t rs).row) [] := by
  refine gEn env Tryz.func77 fun Γ hN hK hML => ?_
  (refine gGo ?_; intros)
  refine W.ownCell 7 0 2 90 2 rfl rfl rfl rfl rfl ?_
  refine W.loopG (fun m st => ∃ k : Nat, k ≤ t.cols.length ∧ m = t.cols.length - k ∧ st = ⟨[(2, .fn 78 [.ro t.row 0, .ro [.sl (intRows .i64 (natL rs)) false] 0]), (6, .bp 6 0), (7, .bp 7 0), (14, .int .i64 t.cols.length), (15, .int .i64 k)],
      [(6, [.rows 3 [[.int .i64 0, .str [], .nils]] none]), (7, [.rows 3 [[.int .i64 t.id, .str t.name, .osl 90 0 0 k k]] none]), (90, [.rows 2 (colRows ((t.cols.take k).map fun c => selC c rs)) (some [])])], [6, 7, 90]⟩)
    t.cols.length _ ⟨0, by omega, by omega, rfl⟩ ⟨[(6, 6), (7, 7), (90, 90)], [], [], .mq (.ci 6 (.ci 7 (.ci 90 .nil)))⟩ ?_
  rintro m st ⟨k, hk, rfl, rfl⟩
  (refine gGo ?_; intros)
  refine boolRes_split (fun hb => ?_) (fun hb => ?_) <;> conv => whnf
  · have hlt : k < t.cols.length := by omega
    have sp := select1_spec t rs k hlt (h _ (List.getElem_mem hlt)) hr
    have hsn : ((t.cols.take (k + 1)).map fun c => selC c rs) = ((t.cols.take k).map fun c => selC c rs) ++ [selC t.cols[k] rs] := by rw [List.take_succ_eq_append_getElem hlt, List.map_append]; rfl
    have hcl : (colRows ((t.cols.take k).map fun c => selC c rs)).length = k := by rw [colRows_len, List.length_map, List.length_take]; omega
    generalize t.cols[k] = c at *
    (refine gGo ?_; intros)
    (refine gPC (sp) ?_; conv => whnf)
    (refine gGo ?_; intros)
    refine ⟨⟨rowsSz_cons rfl rowsSz_nil, hcl.symm⟩, fitN (n := k + 1) (b := 40) (by omega) (by omega), .inl ⟨rfl, rfl, ?_⟩⟩
    conv => whnf
    (refine gGo ?_; intros)
    refine ⟨_, _, ?_, ⟨k + 1, by omega, rfl, rfl⟩, [(6, 6), (7, 7), (90, 90)], [], [], LeG.mq (.ci 6 (.cons 7 rfl rfl (.refl _) ?_ (.cons 90 rfl rfl (.refl _) ?_ .nil)))⟩
    · omega
    · rfl
    · rw [hsn, colRows_snocS]; rfl
  · have hke : k = t.cols.length := by omega
    have e2 : (t.cols.take k).map (fun c => selC c rs) = t.cols.map fun c => selC c rs := by rw [hke, List.take_length]
    have hcl : k = (colRows (t.cols.map fun c => selC c rs)).length := by rw [colRows_len, List.length_map, hke]
    rw [e2]
    refine W.leG (mp := [(6, 6), (7, 7)]) (bo := [90]) (st' := ⟨[(6, .bp 6 0), (7, .bp 7 0), (16, .bool false)], [(6, [.rows 3 [[.int .i64 0, .str [], .nils]] none]), (7, [.rows 3 [(selT t rs).row] none])], [6, 7]⟩)
      (LeG.mq (.ci 6 (.cons 7 (b1 := .rows 3 [(selT t rs).row] none) rfl rfl (.rows _ _ _ ⟨⟨⟨.refl _, rfl⟩, ⟨.refl _, rfl⟩, ⟨Lent.whole rfl rfl hcl rfl (by first | exact .inl rfl | exact .inr rfl), rfl⟩, trivial⟩, trivial⟩) rfl .nil))) ?_
    (refine gGr ?_; intros)
    exact ret0 rfl rfl rfl
set_option maxHeartbeats 4000000 in
theorem select_spec (t : Table) (rs : List Nat) (hv : validB t = true) (h : ∀ i ∈ rs, i < rowsN t) (hl : rs.length ≤ 4096) : Spec Tryz.prog 46 [.agg t.row, .sl (intRows .i64 (natL rs)) false] [] (.tup [.agg (selT t rs).row, .int .i64 0]) [] := by
  have sp1 := valid_spec t
  rw [hv] at sp1
  have sp2 := rows_spec t
  have sp3 := within_spec rs (rowsN t) h
  have hr := natLRows_len rs
  have hcl := colRows_len t.cols
  have f64 : t.cols.length ≤ 4294967295 := by
    simp only [validB, headB, Bool.and_eq_true, decide_eq_true_eq] at hv; omega
  have sp4 := withS_spec t rs f64 (by omega) (fun c hc i hi => by rw [valid_cells hv c hc]; exact h i hi)
  rw [← hcl] at sp4
  refine gEn env Tryz.func46 fun Γ hN hK hML => ?_
  refine gA ?_
  (refine gE env hN (by kernel_rfl) ?_; conv => whnf)
  (refine gGs ?_; intros)
  refine gA ?_
  refine W.leG (mp := [(4, 4)]) (bo := [2, 3]) (st' := ⟨[(2, .ro t.row 0), (3, .ro [.sl (intRows .i64 (natL rs)) false] 0), (4, .bp 4 0), (5, .int .i64 0)], [(4, [.rows 3 [[.int .i64 0, .str [], .nils]] none])], [4]⟩)
    (LeG.mk' rfl rfl rfl ⟨⟨_, .bp 2 0 3 t.row none rfl rfl (by simp) (.inr rfl), rfl⟩, ⟨_, .bp 3 0 1 [.sl (intRows .i64 (natL rs)) false] none rfl rfl (by simp) (.inr rfl), rfl⟩, ⟨_, .refl _, rfl⟩, ⟨_, .refl _, rfl⟩, trivial⟩ (.ci 4 .nil) rfl rfl (by rw [hK]; rfl)) ?_
  (refine gGo ?_; intros)
  (refine gPC (sp1) ?_; conv => whnf)
  (refine gGo ?_; intros)
  (refine gPC (sp2) ?_; conv => whnf)
  (refine gGo ?_; intros)
  (refine gPC (sp3) ?_; conv => whnf)
  (refine gGo ?_; intros)
  (refine gPC (sp4) ?_; conv => whnf)
  (refine gGr ?_; intros)
  exact ret0 rfl rfl rfl
end Go.Sx.Sp
namespace Go.Sx.Sp
open Go Go.Sx Go.Proofs Go.Sort
attribute [local irreducible] GoodW
def ordM (t : Table) (k : Nat) : List Nat := sortK (fun i => (cellI (colK t k) i).text) (List.range (rowsN t))
def sortedM (t : Table) (key : Int) : Table × Int := if validB t = true then (if checkM key [t] = 0 then (selT t (ordM t key.toNat), 0) else (Table.zero, checkM key [t])) else (Table.zero, 1)
def natRowsS (l : List Nat) : List (List V) := intRows .i64 (natL l)
theorem natRowsS_len (l : List Nat) : (natRowsS l).length = l.length := natLRows_len l
theorem sortRows_spec (cs : List Cell) (hd : (textsOf cs).Nodup) (hn : cs.length < 4611686018427387904) : Spec Tryz.prog 43 [.osl 0 0 0 (natRowsS (List.range cs.length)).length (natRowsS (List.range cs.length)).length, .fn 44 [.ro [.sl (cellRows cs) false] 0]] [(0, .rows 1 (natRowsS (List.range cs.length)) (some []))] (.tup [])
    [(0, .rows 1 (natRowsS (sortK (fun i => (cellI cs i).text) (List.range cs.length))) (some []))] := by
  have hget : ∀ i j : Nat, i < cs.length → j < cs.length → (cellI cs i).text = (cellI cs j).text → i = j := fun i j hi hj e => nodup_get hd hi hj e
  have hdl : DistK (fun i => (cellI cs i).text) (List.range cs.length) := by
    unfold DistK
    rw [List.pairwise_iff_getElem]
    intro i j hi hj hij e
    simp only [List.getElem_range] at e
    have := hget i j (by simpa using hi) (by simpa using hj) e
    omega
  have h := sortOne_spec Tryz.sortInt (fun i : {i // i < cs.length} => V.int .i64 (i.1 : Nat)) (cmpK fun i => (cellI cs i.1).text) (cmpK_swo _) (cmpK_tot fun a b e => Subtype.ext (hget _ _ a.2 b.2 e)) 44 [.ro [.sl (cellRows cs) false] 0] (fun u hu => by simp at hu; subst hu; rfl)
    (fun a b => byRow_spec cs a.1 b.1 a.2 b.2) ((List.range cs.length).attach.map fun x => ⟨x.1, List.mem_range.1 x.2⟩) (by simpa using hn)
  have hc : ∀ m : List {i // i < cs.length}, oneR (fun i : {i // i < cs.length} => V.int .i64 (i.1 : Nat)) m = natRowsS (m.map Subtype.val) := fun m => by
    unfold oneR natRowsS intRows natL
    rw [List.map_map, List.map_map]
    rfl
  have hm : (((List.range cs.length).attach.map fun x => (⟨x.1, List.mem_range.1 x.2⟩ : {i // i < cs.length})).map Subtype.val) = List.range cs.length := by
    rw [List.map_map]
    show (List.range cs.length).attach.map Subtype.val = _
    exact List.attach_map_subtype_val _
  have hT : ((((List.range cs.length).attach.map fun x => (⟨x.1, List.mem_range.1 x.2⟩ : {i // i < cs.length})).mergeSort (fun a b => !(ltOf (cmpK fun i : {i // i < cs.length} => (cellI cs i.1).text) b a))).map Subtype.val) = sortK (fun i => (cellI cs i).text) (List.range cs.length) := by
    generalize hM : ((List.range cs.length).attach.map fun x => (⟨x.1, List.mem_range.1 x.2⟩ : {i // i < cs.length})) = M at *
    have hdM : DistK (fun i : {i // i < cs.length} => (cellI cs i.1).text) M := by
      have h2 : (M.map Subtype.val).Pairwise fun a b => (cellI cs a).text ≠ (cellI cs b).text := by rw [hm]; exact hdl
      rw [List.pairwise_map] at h2
      exact h2
    refine ascK_ext (key := fun i => (cellI cs i).text) ?_ (sortK_asc hdl) fun t => ?_
    · unfold AscK
      rw [List.pairwise_map]
      exact cmpK_asc (key := fun r : {i // i < cs.length} => (cellI cs r.1).text) _ hdM
    · rw [sortK_mem, ← hm]
      simp only [List.mem_map, (List.mergeSort_perm _ _).mem_iff]
  rw [hc, hc, hT, hm] at h
  exact h
def fillL (n k : Nat) : List Nat := (List.range n).map fun i => if i < k then i else 0
theorem fillL_len (n k : Nat) : (fillL n k).length = n := by simp [fillL]
theorem fillL_zero (n : Nat) : natRowsS (fillL n 0) = List.replicate n [.int .i64 0] := by
  unfold natRowsS natL fillL
  simp only [intRows, List.map_map]
  rw [List.eq_replicate_iff]
  refine ⟨by simp, fun b hb => ?_⟩
  obtain ⟨i, _, rfl⟩ := List.mem_map.1 hb
  simp
theorem fillL_all (n : Nat) : fillL n n = List.range n := by
  unfold fillL
  conv => rhs; rw [← List.map_id (List.range n)]
  refine List.map_congr_left fun i hi => ?_
  rw [if_pos (List.mem_range.1 hi)]; rfl
theorem fillL_set {n k : Nat} (h : k < n) : (natRowsS (fillL n k)).set k [.int .i64 (k : Nat)] = natRowsS (fillL n (k + 1)) := by
  refine List.ext_getElem (by simp [natRowsS_len, fillL_len]) fun i h1 h2 => ?_
  have hi : i < n := by rw [natRowsS_len, fillL_len] at h2; exact h2
  rw [List.getElem_set]
  simp only [natRowsS, intRows, natL, fillL, List.getElem_map, List.getElem_range]
  by_cases e : k = i
  · subst e; simp
  · rw [if_neg e]
    by_cases e2 : i < k
    · rw [if_pos e2, if_pos (by omega)]
    · rw [if_neg e2, if_neg (by omega)]
set_option maxHeartbeats 8000000 in
theorem sorted1_spec (t : Table) (key : Int) : Spec Tryz.prog 14 [.agg t.row, .int .i64 key] [] (.tup [.agg (sortedM t key).1.row, .int .i64 (sortedM t key).2]) [] := by
  have sp1 := valid_spec t
  have sp2 := check_spec key [t]
  have sp3 := rows_spec t
  refine gEn env Tryz.func14 fun Γ hN hK hML => ?_
  cases hv : validB t with
  | false =>
    have hT : sortedM t key = (Table.zero, 1) := by simp [sortedM, hv]
    rw [hT]
    rw [hv] at sp1
    (refine gGo ?_; intros)
    (refine gPC (sp1) ?_; conv => whnf)
    (refine gGr ?_; intros)
    exact ret0 rfl rfl rfl
  | true =>
    rw [hv] at sp1
    by_cases hck : checkM key [t] = 0
    · have hT : sortedM t key = (selT t (ordM t key.toNat), 0) := by simp [sortedM, hv, hck]
      rw [hT]
      rw [hck] at sp2
      have hin : inB key t = true ∧ keyB (colK t key.toNat) = true := by
        unfold checkM at hck
        split at hck
        · rename_i h1
          split at hck
          · rename_i h2
            simp only [List.all_cons, List.all_nil, Bool.and_true] at h1 h2
            exact ⟨h1, h2⟩
          · simp at hck
        · simp at hck
      obtain ⟨i1, i3⟩ := hin
      unfold inB at i1
      have i1 := of_decide_eq_true i1
      obtain ⟨k, rfl⟩ : ∃ k : Nat, key = k := ⟨key.toNat, by omega⟩
      simp only [Int.toNat_natCast] at *
      have hk : k < t.cols.length := by omega
      have eA : colK t k = t.cols[k].cells := by simp [colK, hk]
      have lA : (colK t k).length = rowsN t := by rw [eA]; exact valid_cells hv _ (List.getElem_mem hk)
      obtain ⟨nA, dA⟩ := (keyB_iff _).1 i3
      have hn := validB_n hv
      have sp4 := sortRows_spec (colK t k) dA (by omega)
      have hperm : ∀ i, i ∈ ordM t k → i < rowsN t := fun i hi => List.mem_range.1 ((sortK_mem _ _ _).1 hi)
      have hol : (ordM t k).length = rowsN t := by unfold ordM; rw [sortK_len]; simp
      have sp5 := select_spec t (ordM t k) hv hperm (by rw [hol]; simp only [validB, headB, Bool.and_eq_true, decide_eq_true_eq] at hv; omega)
      have hcl := colRows_len t.cols
      have hx := colRows_get hk
      rw [lA] at sp4
      rw [show sortK (fun i => (cellI (colK t k) i).text) (List.range (rowsN t)) = ordM t k from rfl] at sp4
      have hl1 := natRowsS_len (List.range (rowsN t))
      rw [List.length_range] at hl1
      have hl2 := natRowsS_len (ordM t k)
      rw [hol] at hl2
      generalize t.cols[k] = c at *
      generalize ordM t k = rs at *
      generalize colK t k = C at *
      subst eA
      (refine gGo ?_; intros)
      (refine gPC (sp1) ?_; conv => whnf)
      (refine gGo ?_; intros)
      (refine gPC (sp2) ?_; conv => whnf)
      (refine gGo ?_; intros)
      (refine gPC (sp3) ?_; conv => whnf)
      (refine gGo ?_; intros)
      refine And.intro ⟨by omega, by omega, show (rowsN t : Int) * 8 ≤ 140737488355328 by omega, by omega⟩ ?_
      rw [Int.toNat_natCast]
      conv => whnf
      (refine gGo ?_; intros)
      refine And.intro (List.length_replicate).symm fun _ => ?_
      conv => whnf
      (refine gGo ?_; intros)
      refine W.loopG (fun m st => ∃ j : Nat, j ≤ rowsN t ∧ m = rowsN t - j ∧ st = ⟨[(1, .int .i64 k), (2, .bp 2 0), (4, .bp 4 0), (5, .int .i64 0), (7, .osl 60 0 0 (rowsN t) (rowsN t)), (26, .int .i64 (rowsN t)), (27, .int .i64 j)],
          [(2, [.rows 3 [t.row] none]), (4, [.rows 3 [[.int .i64 0, .str [], .nils]] none]), (60, [.rows 1 (natRowsS (fillL (rowsN t) j)) (some [])])], [2, 4, 60]⟩)
        (rowsN t) _ ⟨0, by omega, by omega, rfl⟩ ⟨[(2, 2), (4, 4), (24, 60)], [], [], LeG.mq (.ci 2 (.ci 4 (.cons 24 rfl rfl (.refl _) (by rw [fillL_zero]; rfl) .nil)))⟩ ?_
      rintro m st ⟨j, hj, rfl, rfl⟩
      have hfl := natRowsS_len (fillL (rowsN t) j)
      rw [fillL_len] at hfl
      (refine gGo ?_; intros)
      refine boolRes_split (fun hb => ?_) (fun hb => ?_) <;> conv => whnf
      · have hlt : j < rowsN t := by omega
        have hset := fillL_set hlt
        have hgj := natL_get (rs := fillL (rowsN t) j) (i := j) (by rw [fillL_len]; exact hlt)
        generalize (fillL (rowsN t) j)[j]'(by rw [fillL_len]; exact hlt) = r0 at hgj
        (refine gGo ?_; intros)
        refine rowAt_of (r := [.int .i64 (r0 : Nat)]) (by rw [Nat.zero_add, Int.toNat_natCast]; exact hgj) ?_
        conv => whnf
        (refine gGo ?_; intros)
        refine ⟨_, _, ?_, ⟨j + 1, by omega, rfl, rfl⟩, [(2, 2), (4, 4), (60, 60)], [], [], LeG.mq (.ci 2 (.ci 4 (.cons 60 rfl rfl (.refl _) ?_ .nil)))⟩
        · omega
        · rw [← hset, Nat.zero_add, Int.toNat_natCast]; rfl
      · have hje : j = rowsN t := by omega
        rw [hje, fillL_all]
        refine W.leG (mp := [(4, 4), (60, 60)]) (bo := [2]) (st' := ⟨[(1, .int .i64 k), (2, .ro t.row 0), (4, .bp 4 0), (5, .int .i64 0), (7, .osl 60 0 0 (rowsN t) (rowsN t)), (28, .bool false)], [(4, [.rows 3 [[.int .i64 0, .str [], .nils]] none]), (60, [.rows 1 (natRowsS (List.range (rowsN t))) (some [])])], [4, 60]⟩)
          (LeG.mk' rfl rfl rfl ⟨⟨_, .refl _, rfl⟩, ⟨_, .bp 2 0 3 t.row none rfl rfl (by simp) (.inr rfl), rfl⟩, ⟨_, .refl _, rfl⟩, ⟨_, .refl _, rfl⟩, ⟨_, .refl _, rfl⟩, ⟨_, .refl _, rfl⟩, trivial⟩ (.ci 4 (.ci 60 .nil)) rfl rfl (by rw [hK]; rfl)) ?_
        (refine gGo ?_; intros)
        refine rowAt_of (by simpa using hx) ?_
        conv => whnf
        (refine gGs ?_; intros)
        refine gA ?_
        refine W.leG (mp := [(4, 4), (60, 60)]) (bo := [9]) (st' := ⟨[(2, .ro t.row 0), (4, .bp 4 0), (7, .osl 60 0 0 (rowsN t) (rowsN t)), (9, .ro [.sl (cellRows c.cells) false] 0)], [(4, [.rows 3 [[.int .i64 0, .str [], .nils]] none]), (60, [.rows 1 (natRowsS (List.range (rowsN t))) (some [])])], [4, 60]⟩)
          (LeG.mk' rfl rfl rfl ⟨⟨_, .refl _, rfl⟩, ⟨_, .refl _, rfl⟩, ⟨_, .refl _, rfl⟩, ⟨_, .bp 9 0 1 [.sl (cellRows c.cells) false] none rfl rfl (by simp) (.inr rfl), rfl⟩, trivial⟩ (.ci 4 (.ci 60 .nil)) rfl rfl (by rw [hK]; rfl)) ?_
        rw [hl1] at sp4
        (refine gGo ?_; intros)
        (refine gCA [(0, 60)] [] [] (sp4) ?_; conv => whnf)
        (refine gGs ?_; intros)
        refine gA ?_
        refine W.leG (mp := [(4, 4)]) (bo := [60]) (st' := ⟨[(2, .ro t.row 0), (4, .bp 4 0), (7, .sl (natRowsS rs) false)], [(4, [.rows 3 [[.int .i64 0, .str [], .nils]] none])], [4]⟩)
          (LeG.mk' rfl rfl rfl ⟨⟨_, .refl _, rfl⟩, ⟨_, .refl _, rfl⟩, ⟨_, Lent.whole rfl rfl hl2.symm rfl (by first | exact .inl rfl | exact .inr rfl), rfl⟩, trivial⟩ (.ci 4 .nil) rfl rfl (by rw [hK]; rfl)) ?_
        rw [show intRows .i64 (natL rs) = natRowsS rs from rfl] at sp5
        (refine gGo ?_; intros)
        (refine gPC (sp5) ?_; conv => whnf)
        (refine gGr ?_; intros)
        exact ret0 rfl rfl rfl
    · have hT : sortedM t key = (Table.zero, checkM key [t]) := by simp [sortedM, hv, hck]
      rw [hT]
      (refine gGo ?_; intros)
      (refine gPC (sp1) ?_; conv => whnf)
      (refine gGo ?_; intros)
      (refine gPC (sp2) ?_; conv => whnf)
      (refine gGo ?_; intros)
      (refine gGr ?_; intros)
      exact ret0 rfl rfl rfl
end Go.Sx.Sp
namespace Go.Sx.Sp
open Go Go.Sx Go.Proofs
attribute [local irreducible] GoodW
theorem bytesLess_iff : ∀ a b : Str, Op.bytesLess a b = true ↔ Lib.compareBytes a b < 0
  | [], [] => by decide
  | [], _ :: _ => by simp [Op.bytesLess, Lib.compareBytes]
  | _ :: _, [] => by simp [Op.bytesLess, Lib.compareBytes]
  | x :: a, y :: b => by
    have ih := bytesLess_iff a b
    unfold Op.bytesLess Lib.compareBytes
    by_cases h1 : x < y
    · simp [h1]
    · by_cases h2 : y < x
      · have h3 : x ≠ y := fun e => by subst e; exact h1 h2
        simp [h1, h2, h3]
      · have h3 : x = y := by
          rw [UInt8.lt_iff_toNat_lt] at h1 h2
          exact UInt8.toNat_inj.1 (by omega)
        subst h3
        simp [h1, ih]
def NiceK (l : List Cell) : Prop := (∀ c ∈ l, c.null = false) ∧ l.Nodup
theorem niceK_nil : NiceK [] := ⟨fun c h => (by cases h), List.nodup_nil⟩
theorem niceK_snoc {l : List Cell} {x : Cell} : NiceK (l ++ [x]) ↔ NiceK l ∧ x.null = false ∧ x ∉ l := by
  unfold NiceK
  rw [List.nodup_append]
  constructor
  · rintro ⟨h1, h2, _, h4⟩
    exact ⟨⟨fun c hc => h1 c (by simp [hc]), h2⟩, h1 x (by simp), fun hx => h4 x hx x (by simp) rfl⟩
  · rintro ⟨⟨h1, h2⟩, h3, h4⟩
    refine ⟨fun c hc => ?_, h2, by simp, fun a ha b hb e => ?_⟩
    · rcases List.mem_append.1 hc with hc | hc
      · exact h1 c hc
      · simp at hc; subst hc; exact h3
    · simp at hb; subst hb; subst e; exact h4 ha
theorem niceK_iff (l : List Cell) : NiceK l ↔ keyB l = true := by
  rw [keyB_iff]
  unfold NiceK
  constructor
  · rintro ⟨h1, h2⟩
    refine ⟨h1, ?_⟩
    unfold textsOf
    rw [List.nodup_iff_pairwise_ne, List.pairwise_map]
    rw [List.nodup_iff_pairwise_ne] at h2
    refine h2.imp_of_mem fun {a b} ha hb hne e => hne ?_
    have e1 := h1 a ha
    have e2 := h1 b hb
    cases a; cases b; simp_all
  · rintro ⟨h1, h2⟩
    refine ⟨h1, ?_⟩
    unfold textsOf at h2
    rw [List.nodup_iff_pairwise_ne, List.pairwise_map] at h2
    rw [List.nodup_iff_pairwise_ne]
    exact h2.imp fun {a b} h e => h (by rw [e])
theorem sortK_perm {α : Type} {key : α → Str} (l : List α) : (sortK key l).Perm l := by
  have hi : ∀ (l : List α) (x : α), (insK key l x).Perm (x :: l) := fun l x => by
    unfold insK
    refine List.perm_middle.trans ?_
    rw [List.take_append_drop]
  have h : ∀ (l s : List α), (l.foldl (insK key) s).Perm (l ++ s) := by
    intro l
    induction l with
    | nil => intro s; exact List.Perm.refl _
    | cons x l ih =>
      intro s
      rw [List.foldl_cons]
      refine (ih _).trans (((hi s x).append_left l).trans ?_)
      exact List.perm_middle
  have := h l []
  simpa [sortK] using this
theorem ordM_perm (t : Table) (k : Nat) : (ordM t k).Perm (List.range (rowsN t)) := sortK_perm _
theorem ordM_len (t : Table) (k : Nat) : (ordM t k).length = rowsN t := by rw [(ordM_perm t k).length_eq, List.length_range]
theorem ordM_lt {t : Table} {k i : Nat} (h : i ∈ ordM t k) : i < rowsN t := List.mem_range.1 ((ordM_perm t k).mem_iff.1 h)
theorem sel_rowsN {t : Table} {rs : List Nat} (h : t.cols ≠ []) : rowsN (selT t rs) = rs.length := by
  unfold rowsN selT
  cases hc : t.cols with
  | nil => exact absurd hc h
  | cons c r => show (rs.map (cellAt c)).length = _; simp
theorem sel_row {t : Table} {rs : List Nat} {r : Nat} (h : r < rs.length) : rowM (selT t rs) r = rowM t rs[r] := by
  unfold rowM selT
  rw [List.map_map]
  refine List.map_congr_left fun c hc => ?_
  show cellAt (selC c rs) r = cellAt c rs[r]
  have e : (selC c rs).cells = rs.map (cellAt c) := rfl
  have e2 : cellAt (selC c rs) r = (rs.map (cellAt c)).getD r ⟨false, []⟩ := by show (selC c rs).cells.getD r _ = _; rw [e]
  rw [e2]
  simp [h]
theorem sel_rows {t : Table} {rs : List Nat} (h : t.cols ≠ []) : rowsT (selT t rs) = rs.map (rowM t) := by
  refine List.ext_getElem (by rw [rowsT_len, sel_rowsN h, List.length_map]) fun i h1 h2 => ?_
  rw [rowsT_get, List.getElem_map]
  exact sel_row (by rw [rowsT_len, sel_rowsN h] at h1; exact h1)
theorem sel_perm {t : Table} {k : Nat} (h : t.cols ≠ []) : (rowsT (selT t (ordM t k))).Perm (rowsT t) := by
  rw [sel_rows h]
  exact (ordM_perm t k).map _
theorem sel_valid {t : Table} {rs : List Nat} (hv : validB t = true) (h : t.cols ≠ []) (hr : ∀ i ∈ rs, i < rowsN t) (hn : rs.length ≤ 4096) : validB (selT t rs) = true := by
  have hv0 := hv
  simp only [validB, headB, Bool.and_eq_true, decide_eq_true_eq, Bool.not_eq_true', List.any_eq_false] at hv ⊢
  obtain ⟨⟨⟨⟨h1, h2⟩, h3⟩, h4⟩, h5⟩ := hv
  refine ⟨⟨⟨⟨h1, h2⟩, by show (t.cols.map _).length ≤ 64; rw [List.length_map]; exact h3⟩, by rw [sel_rowsN h]; exact hn⟩, fun c hc => ?_⟩
  obtain ⟨d, hd, rfl⟩ := List.mem_map.1 hc
  have h6 := h5 d hd
  simp only [badCol, Bool.or_eq_true, decide_eq_true_eq, not_or, Decidable.not_not, Bool.not_eq_true', Bool.not_eq_false] at h6 ⊢
  refine ⟨⟨h6.1.1, by rw [sel_rowsN h]; show (rs.map (cellAt d)).length = _; simp⟩, ?_⟩
  show (rs.map (cellAt d)).all cellB = true
  rw [List.all_eq_true]
  intro x hx
  obtain ⟨i, hi, rfl⟩ := List.mem_map.1 hx
  have hl : i < d.cells.length := by rw [valid_cells hv0 d hd]; exact hr i hi
  have : cellAt d i = d.cells[i] := by simp [cellAt, hl]
  rw [this]
  exact valid_good hv0 hd _ (List.getElem_mem hl)
theorem sel_asc {t : Table} {k : Nat} (hv : validB t = true) (hk : k < t.cols.length) (hkey : keyB (colK t k) = true) {r : Nat} (h : r + 1 < rowsN t) :
    ∃ (h1 : r < (selC t.cols[k] (ordM t k)).cells.length) (h2 : r + 1 < (selC t.cols[k] (ordM t k)).cells.length), Op.bytesLess ((selC t.cols[k] (ordM t k)).cells[r]).text ((selC t.cols[k] (ordM t k)).cells[r + 1]).text = true := by
  have hl := ordM_len t k
  have eA : colK t k = t.cols[k].cells := by simp [colK, hk]
  have lA : (colK t k).length = rowsN t := by rw [eA]; exact valid_cells hv _ (List.getElem_mem hk)
  obtain ⟨nA, dA⟩ := (keyB_iff _).1 hkey
  have hdl : DistK (fun i => (cellI (colK t k) i).text) (List.range (rowsN t)) := by
    unfold DistK
    rw [List.pairwise_iff_getElem]
    intro i j hi hj hij e
    simp only [List.getElem_range] at e
    rw [List.length_range] at hi hj
    have := nodup_get dA (i := i) (j := j) (by omega) (by omega) e
    omega
  have ha : AscK (fun i => (cellI (colK t k) i).text) (ordM t k) := sortK_asc hdl
  have hp := List.pairwise_iff_getElem.1 ha r (r + 1) (by omega) (by omega) (by omega)
  have hc : ∀ i, cellAt t.cols[k] i = cellI (colK t k) i := fun i => by rw [eA]; rfl
  refine ⟨by show r < ((ordM t k).map _).length; simp; omega, by show r + 1 < ((ordM t k).map _).length; simp; omega, ?_⟩
  rw [bytesLess_iff]
  have e1 : ∀ (q : Nat) (hq : q < (selC t.cols[k] (ordM t k)).cells.length), (selC t.cols[k] (ordM t k)).cells[q] = cellI (colK t k) ((ordM t k)[q]'(by have : q < ((ordM t k).map (cellAt t.cols[k])).length := hq; simpa using this)) := fun q hq => by
    rw [← hc]
    exact List.getElem_map (cellAt t.cols[k]) (l := ordM t k) (i := q) (h := hq)
  rw [e1, e1]
  exact hp
theorem keysTo_split (t : Table) : ∀ (m j : Nat), ∃ r : List Int, keysTo t (j + m) = keysTo t j ++ r ∧ (∀ x ∈ r, (j : Int) ≤ x) ∧ (0 < m → (keyAtB t j = true → r.head? = some (j : Int)) ∧ (keyAtB t j = false → ∀ x ∈ r, (j : Int) + 1 ≤ x))
  | 0, j => ⟨[], by simp, fun x h => (by cases h), fun h => (by omega)⟩
  | m + 1, j => by
    obtain ⟨r, h1, h2, _⟩ := keysTo_split t m (j + 1)
    rw [show j + 1 + m = j + (m + 1) by omega, keysTo_snoc] at h1
    by_cases h : keyAtB t j = true
    · rw [if_pos h] at h1
      refine ⟨(j : Int) :: r, by rw [h1]; simp, fun x hx => ?_, fun _ => ⟨fun _ => rfl, fun h3 => by rw [h] at h3; cases h3⟩⟩
      rcases List.mem_cons.1 hx with rfl | hx
      · omega
      · have := h2 x hx; push_cast at this; omega
    · rw [if_neg h] at h1
      refine ⟨r, h1, fun x hx => ?_, fun _ => ⟨fun h3 => absurd h3 h, fun _ x hx => ?_⟩⟩
      · have := h2 x hx; push_cast at this; omega
      · have := h2 x hx; push_cast at this; omega
end Go.Sx.Sp
namespace Go.Sx.Sp
open Go Go.Sx Go.Proofs
attribute [local irreducible] GoodW
theorem fine_good {s : Str} (h : GoodText s) : fineB s = true := by
  have h1 := validD_good h.2
  have h2 := h.1
  simp [fineB, h1]; omega
theorem cell_good {c : Cell} (h : GoodCell c) : cellB c = true := by
  have h1 := fine_good h.text
  cases hn : c.null with
  | false => simp [cellB, h1, hn]
  | true =>
    have h2 := h.null hn
    rw [h2] at h1
    simp [cellB, hn, h2, h1]
theorem table_good {t : Table} (h : GoodTable t) (hid : 0 ≤ t.id ∧ t.id ≤ 1073741824) : validB t = true := by
  obtain ⟨n, hn, hc⟩ := h.cols
  have hf := h.few
  have hr : rowsN t ≤ 6 ∧ (∀ c ∈ t.cols, c.cells.length = rowsN t) := by
    unfold rowsN
    cases he : t.cols with
    | nil => simp
    | cons c r =>
      have h1 := (hc c (by rw [he]; simp)).len
      refine ⟨by show c.cells.length ≤ 6; omega, fun d hd => ?_⟩
      have h2 := (hc d (by rw [he]; exact hd)).len
      show d.cells.length = c.cells.length
      omega
  have hb : t.cols.any (badCol t) = false := by
    rw [List.any_eq_false]
    intro c hcm
    have h3 := hc c hcm
    have h4 := fine_good h3.name
    have h5 : c.cells.all cellB = true := List.all_eq_true.2 fun x hx => cell_good (h3.cells x hx)
    simp [badCol, h4, h5, hr.2 c hcm]
  have h6 := fine_good h.name
  simp only [validB, headB, hb, h6, Bool.and_eq_true, decide_eq_true_eq, Bool.not_false]
  exact ⟨⟨⟨⟨hid, trivial⟩, by omega⟩, by omega⟩, trivial⟩
set_option maxHeartbeats 16000000 in
theorem keys_law (l : List Int) : Spec Tryz.prog 4 [.sl (intRows .i64 l) false] [] (.bool true) [] := by
  have hl := intRows_len .i64 l
  have spL := light_spec l
  have spA := awake37_spec
  refine gEn env Tryz.func4 fun Γ hN hK hML => ?_
  by_cases hll : l.length ≤ 500
  · rw [decide_eq_true hll] at spL
    obtain ⟨gT, hid, hpT⟩ := tblF_ok (l := l) (id := 1) (p := 0) (by omega)
    have hv : validB (tblF l 1 0).1 = true := table_good gT (by rw [hid]; omega)
    have few := gT.few
    have sp1 := table_spec l 1 0 (by omega)
    generalize (tblF l 1 0).1 = t at *
    generalize (tblF l 1 0).2 = q at *
    have sp2 := keys_spec t
    have hkm : keysM t = keysTo t t.cols.length := by unfold keysM; rw [if_pos hv]
    rw [hkm] at sp2
    have hcl := colRows_len t.cols
    have hkl := intRows_len .i64 (keysTo t t.cols.length)
    have hkb := keysTo_len t t.cols.length
    have hvn := validB_n hv
    have hvc : ∀ (i : Nat) (h : i < t.cols.length), (t.cols[i]).cells.length = rowsN t := fun i h => valid_cells hv _ (List.getElem_mem h)
    (refine gGo ?_; intros)
    (refine gPC (spL) ?_; conv => whnf)
    (refine gGo ?_; intros)
    (refine gCA [] [(5, 70)] [] (roll_spec l) ?_; conv => whnf)
    (refine gGo ?_; intros)
    (refine ⟨_, _, _, callG [(0, 70)] [] [] rfl rfl rfl (by kernel_rfl) (sp1) (by repeat' (first | exact trivial | exact Lent.refl _ | exact Lent.norm _ | exact Lent.whole rfl rfl (by first | rfl | exact List.length_append.symm | exact hlenR | simp) rfl (by first | exact .inl rfl | exact .inr rfl) | apply And.intro)) rfl ⟨rfl, rfl, rfl, rfl, rfl, by repeat' (first | exact trivial | rfl | apply And.intro), rfl, rfl⟩, ?_⟩; conv => whnf)
    (refine gGs ?_; intros)
    refine gA ?_
    refine W.leG (mp := []) (bo := [4]) (st' := ⟨[(4, .ro t.row 0)], [], []⟩)
      (LeG.mk' rfl rfl rfl ⟨⟨_, .bp 4 0 3 t.row none rfl rfl (by simp) (.inr rfl), rfl⟩, trivial⟩ .nil rfl rfl (by rw [hK]; rfl)) ?_
    (refine gGo ?_; intros)
    (refine gPC (sp2) ?_; conv => whnf)
    (refine gGo ?_; intros)
    refine W.loopG (fun m st => ∃ i : Nat, i ≤ t.cols.length ∧ m = t.cols.length - i ∧ st = ⟨[(4, .ro t.row 0), (5, .sl (intRows .i64 (keysTo t t.cols.length)) false), (6, .int .i64 ((keysTo t i).length : Nat)), (28, .sl (colRows t.cols) false), (29, .int .i64 (colRows t.cols).length), (30, .int .i64 (i : Nat))], [], []⟩)
      t.cols.length _ ⟨0, by omega, by omega, rfl⟩ ⟨[], [], [], .mq .nil⟩ ?_
    rintro m st ⟨i, hi, rfl, rfl⟩
    (refine gGo ?_; intros)
    refine boolRes_split (fun hb => ?_) (fun hb => ?_) <;> conv => whnf
    · have hlt : i < t.cols.length := by omega
      have hx := colRows_get hlt
      have hcn := hvc i hlt
      have hsel := sorted1_spec t (i : Nat)
      have eA : colK t i = t.cols[i].cells := by simp [colK, hlt]
      obtain ⟨kr, hk1, hk2, hk3⟩ := keysTo_split t (t.cols.length - i) i
      rw [show i + (t.cols.length - i) = t.cols.length by omega] at hk1
      obtain ⟨hk3, hk4⟩ := hk3 (by omega)
      have hsn := keysTo_snoc t i
      have hkey : keyAtB t i = keyB t.cols[i].cells := by unfold keyAtB; rw [eA]
      generalize hc : t.cols[i] = c at *
      have hcl2 := cellRows_len c.cells
      (refine gGo ?_; intros)
      refine rowAt_of (by simpa using hx) ?_
      conv => whnf
      (refine gGo ?_; intros)
      refine W.leG (mp := []) (bo := [8]) (st' := ⟨[(4, .ro t.row 0), (5, .sl (intRows .i64 (keysTo t t.cols.length)) false), (6, .int .i64 ((keysTo t i).length : Nat)), (28, .sl (colRows t.cols) false), (29, .int .i64 (colRows t.cols).length), (30, .int .i64 (i : Nat)), (7, .int .i64 (i : Nat)), (8, .ro c.row 0), (9, .bool true), (36, .sl (cellRows c.cells) false), (37, .int .i64 (cellRows c.cells).length), (38, .int .i64 (0 : Nat))], [], []⟩)
        (LeG.mk' rfl rfl rfl ⟨⟨_, .refl _, rfl⟩, ⟨_, .refl _, rfl⟩, ⟨_, .refl _, rfl⟩, ⟨_, .refl _, rfl⟩, ⟨_, .refl _, rfl⟩, ⟨_, .refl _, rfl⟩, ⟨_, .refl _, rfl⟩, ⟨_, .bp 8 0 2 c.row none rfl rfl (by simp) (.inr rfl), rfl⟩, ⟨_, .refl _, rfl⟩, ⟨_, .refl _, rfl⟩, ⟨_, .refl _, rfl⟩, ⟨_, .refl _, rfl⟩, trivial⟩ .nil rfl rfl (by rw [hK]; rfl)) ?_
      refine W.loopG (fun m st => ∃ (r : Nat) (kb : Bool), r ≤ c.cells.length ∧ (kb = true ↔ NiceK (c.cells.take r)) ∧ m = c.cells.length - r ∧ st = ⟨[(4, .ro t.row 0), (5, .sl (intRows .i64 (keysTo t t.cols.length)) false), (6, .int .i64 ((keysTo t i).length : Nat)), (28, .sl (colRows t.cols) false), (29, .int .i64 (colRows t.cols).length), (30, .int .i64 (i : Nat)), (7, .int .i64 (i : Nat)), (8, .ro c.row 0), (9, .bool kb), (36, .sl (cellRows c.cells) false), (37, .int .i64 (cellRows c.cells).length), (38, .int .i64 (r : Nat))], [], []⟩)
        c.cells.length _ ⟨0, true, by omega, by simp [niceK_nil], by omega, rfl⟩ ⟨[], [], [], .mq .nil⟩ ?_
      rintro m st ⟨r, kb, hr, hkb2, rfl, rfl⟩
      (refine gGo ?_; intros)
      refine boolRes_split (fun hb => ?_) (fun hb => ?_) <;> conv => whnf
      · have hrl : r < c.cells.length := by omega
        have hg := cellRows_get hrl
        have hts : c.cells.take (r + 1) = c.cells.take r ++ [c.cells[r]] := by rw [List.take_succ_eq_append_getElem hrl]
        have hsnn := niceK_snoc (l := c.cells.take r) (x := c.cells[r])
        rw [← hts] at hsnn
        generalize c.cells[r] = x at *
        (refine gGo ?_; intros)
        refine rowAt_of (by simpa using hg) ?_
        conv => whnf
        (refine gGs ?_; intros)
        refine W.leG (mp := []) (bo := [11]) (st' := ⟨[(4, .ro t.row 0), (5, .sl (intRows .i64 (keysTo t t.cols.length)) false), (6, .int .i64 ((keysTo t i).length : Nat)), (28, .sl (colRows t.cols) false), (29, .int .i64 (colRows t.cols).length), (30, .int .i64 (i : Nat)), (7, .int .i64 (i : Nat)), (8, .ro c.row 0), (9, .bool kb), (10, .int .i64 (r : Nat)), (11, .ro x.row 0), (36, .sl (cellRows c.cells) false), (37, .int .i64 (cellRows c.cells).length), (38, .int .i64 (r : Nat))], [], []⟩)
          (LeG.mk' rfl rfl rfl ⟨⟨_, .refl _, rfl⟩, ⟨_, .refl _, rfl⟩, ⟨_, .refl _, rfl⟩, ⟨_, .refl _, rfl⟩, ⟨_, .refl _, rfl⟩, ⟨_, .refl _, rfl⟩, ⟨_, .refl _, rfl⟩, ⟨_, .refl _, rfl⟩, ⟨_, .refl _, rfl⟩, ⟨_, .refl _, rfl⟩, ⟨_, .bp 11 0 2 x.row none rfl rfl (by simp) (.inr rfl), rfl⟩, ⟨_, .refl _, rfl⟩, ⟨_, .refl _, rfl⟩, ⟨_, .refl _, rfl⟩, trivial⟩ .nil rfl rfl (by rw [hK]; rfl)) ?_
        refine W.cut (fun s => ∃ kb2 : Bool, (kb2 = true ↔ NiceK (c.cells.take r) ∧ x.null = false) ∧ s = ⟨[(4, .ro t.row 0), (5, .sl (intRows .i64 (keysTo t t.cols.length)) false), (6, .int .i64 ((keysTo t i).length : Nat)), (28, .sl (colRows t.cols) false), (29, .int .i64 (colRows t.cols).length), (30, .int .i64 (i : Nat)), (7, .int .i64 (i : Nat)), (8, .ro c.row 0), (9, .bool kb2), (10, .int .i64 (r : Nat)), (11, .ro x.row 0), (36, .sl (cellRows c.cells) false), (37, .int .i64 (cellRows c.cells).length), (38, .int .i64 (r : Nat))], [], []⟩) ?_ ?_
        · obtain ⟨nul, txt⟩ := x
          cases kb with
          | false =>
            (refine gGo ?_; intros)
            exact ⟨_, ⟨false, by simp at hkb2 ⊢; exact fun h => absurd h hkb2, rfl⟩, .le (mp := []) (bo := []) (LeG.mq .nil)⟩
          | true =>
            cases nul with
            | false =>
              (refine gGo ?_; intros)
              exact ⟨_, ⟨true, by simp at hkb2 ⊢; exact hkb2, rfl⟩, .le (mp := []) (bo := []) (LeG.mq .nil)⟩
            | true =>
              (refine gGo ?_; intros)
              exact ⟨_, ⟨false, by simp, rfl⟩, .le (mp := []) (bo := []) (LeG.mq .nil)⟩
        · rintro s' ⟨kb2, hk2, rfl⟩
          have hsl : List.drop (Int.toNat 0) (List.take ((r : Int)).toNat (cellRows c.cells)) = cellRows (c.cells.take r) := by simp [cellRows]
          have hslen : (cellRows (c.cells.take r)).length = r := by rw [cellRows_len, List.length_take]; omega
          (refine gGo ?_; intros)
          refine And.intro (cellRows_sz _) ?_
          rw [hsl]
          conv => whnf
          (refine gGo ?_; intros)
          refine W.loopG (fun m st => ∃ (q : Nat) (kb3 : Bool), q ≤ r ∧ (kb3 = true ↔ NiceK (c.cells.take r) ∧ x.null = false ∧ x ∉ (c.cells.take r).take q) ∧ m = r - q ∧ st = ⟨[(4, .ro t.row 0), (5, .sl (intRows .i64 (keysTo t t.cols.length)) false), (6, .int .i64 ((keysTo t i).length : Nat)), (28, .sl (colRows t.cols) false), (29, .int .i64 (colRows t.cols).length), (30, .int .i64 (i : Nat)), (7, .int .i64 (i : Nat)), (8, .ro c.row 0), (9, .bool kb3), (11, .ro x.row 0), (36, .sl (cellRows c.cells) false), (37, .int .i64 (cellRows c.cells).length), (38, .int .i64 (r : Nat)), (52, .sl (cellRows (c.cells.take r)) false), (53, .int .i64 (cellRows (c.cells.take r)).length), (54, .int .i64 (q : Nat))], [], []⟩)
            r _ ⟨0, kb2, by omega, by simp [hk2], by omega, rfl⟩ ⟨[], [], [], .mq .nil⟩ ?_
          rintro m st ⟨q, kb3, hq, hk5, rfl, rfl⟩
          (refine gGo ?_; intros)
          refine boolRes_split (fun hb => ?_) (fun hb => ?_) <;> conv => whnf
          · have hql : q < (c.cells.take r).length := by rw [List.length_take]; omega
            have hg2 := cellRows_get hql
            have hts2 : (c.cells.take r).take (q + 1) = (c.cells.take r).take q ++ [(c.cells.take r)[q]] := by rw [List.take_succ_eq_append_getElem hql]
            generalize (c.cells.take r)[q] = y at *
            (refine gGo ?_; intros)
            refine rowAt_of (by simpa using hg2) ?_
            conv => whnf
            (refine gGo ?_; intros)
            have hmem : x ∉ (c.cells.take r).take (q + 1) ↔ x ∉ (c.cells.take r).take q ∧ x ≠ y := by
              rw [hts2, List.mem_append]; simp
            cases kb3 with
            | false =>
              (refine gGo ?_; intros)
              refine ⟨_, _, ?_, ⟨q + 1, false, by omega, by rw [hmem]; simp at hk5 ⊢; exact fun h1 h2 h3 => absurd h3 (by simpa using hk5 h1 h2), rfl, rfl⟩, [], [13], [], LeG.mq .nil⟩
              omega
            | true =>
              conv => whnf
              refine ⟨_, _, _, cells_ne rfl x y rfl rfl (by kernel_rfl), ?_⟩
              by_cases hxy : x = y
              · rw [decide_eq_true hxy]
                conv => whnf
                (refine gGo ?_; intros)
                refine ⟨_, _, ?_, ⟨q + 1, false, by omega, by rw [hmem]; simp [hxy], rfl, rfl⟩, [], [13], [], LeG.mq .nil⟩
                omega
              · rw [decide_eq_false hxy]
                conv => whnf
                (refine gGo ?_; intros)
                refine ⟨_, _, ?_, ⟨q + 1, true, by omega, by rw [hmem]; simp [hxy]; simpa using hk5, rfl, rfl⟩, [], [13], [], LeG.mq .nil⟩
                omega
          · have hqe : q = r := by omega
            have e3 : (c.cells.take r).take q = c.cells.take r := by rw [hqe, List.take_take, Nat.min_self]
            rw [e3, ← hsnn] at hk5
            (refine gGo ?_; intros)
            refine ⟨_, _, ?_, ⟨r + 1, kb3, by omega, hk5, rfl, rfl⟩, ⟨[], [], [], .mq .nil⟩⟩
            omega
      · have hre : r = c.cells.length := by omega
        rw [hre, List.take_length, niceK_iff, ← hkey] at hkb2
        have hrk : kb = keyAtB t i := by
          cases kb <;> cases hkk : keyAtB t i <;> simp_all
        have hg0 : ∀ x rest, kr = x :: rest → (intRows .i64 (keysTo t t.cols.length))[(keysTo t i).length]? = some [.int .i64 x] := fun x rest e => by
          rw [hk1, e]
          simp [intRows]
        have hle : (keysTo t i).length ≤ i := keysTo_len t i
        have hlk : (keysTo t t.cols.length).length = (keysTo t i).length + kr.length := by rw [hk1, List.length_append]
        subst hrk
        cases hkk : keyAtB t i with
        | false =>
          have hsT : sortedM t (i : Nat) = (Table.zero, 20) := by
            unfold sortedM checkM inB
            rw [if_pos hv, List.all_cons, List.all_cons, Int.toNat_natCast]
            unfold keyAtB at hkk
            rw [hkk]
            simp [hlt]
          rw [hsT] at hsel
          have hk5 := hk4 hkk
          have hsn2 : keysTo t (i + 1) = keysTo t i := by rw [hsn, if_neg (by rw [hkk]; simp)]
          cases kr with
          | nil =>
            simp only [List.length_nil, Nat.add_zero] at hlk
            (refine gGo ?_; intros)
            (refine gPC (hsel) ?_; conv => whnf)
            (refine gGo ?_; intros)
            refine ⟨_, _, ?_, ⟨i + 1, by omega, rfl, rfl⟩, [], [14], [], LeG.mk' rfl rfl rfl (by repeat' (first | exact trivial | exact ⟨_, .refl _, rfl⟩ | (rw [hsn2]; exact ⟨_, .refl _, rfl⟩) | apply And.intro)) .nil rfl rfl (by rw [hK]; rfl)⟩
            omega
          | cons x rest =>
            have hg := hg0 x rest rfl
            have hxi := hk5 x (by simp)
            simp only [List.length_cons] at hlk
            (refine gGo ?_; intros)
            refine rowAt_of (by simpa using hg) ?_
            conv => whnf
            (refine gGo ?_; intros)
            (refine gPC (hsel) ?_; conv => whnf)
            (refine gGo ?_; intros)
            refine ⟨_, _, ?_, ⟨i + 1, by omega, rfl, rfl⟩, [], [14], [], LeG.mk' rfl rfl rfl (by repeat' (first | exact trivial | exact ⟨_, .refl _, rfl⟩ | (rw [hsn2]; exact ⟨_, .refl _, rfl⟩) | apply And.intro)) .nil rfl rfl (by rw [hK]; rfl)⟩
            omega
        | true =>
          have hk5 := hk3 hkk
          have hsn2 : keysTo t (i + 1) = keysTo t i ++ [(i : Int)] := by rw [hsn, if_pos hkk]
          have hsl2 : (keysTo t (i + 1)).length = (keysTo t i).length + 1 := by rw [hsn2]; simp
          have hkB : keyB (colK t i) = true := hkk
          have hsT : sortedM t (i : Nat) = (selT t (ordM t i), 0) := by
            unfold sortedM checkM inB
            rw [if_pos hv, List.all_cons, List.all_cons, Int.toNat_natCast, hkB]
            simp [hlt]
          rw [hsT] at hsel
          have hne : t.cols ≠ [] := fun e => by rw [e] at hlt; simp at hlt
          have hol := ordM_len t i
          have hsv := sel_valid hv hne (fun _ h => ordM_lt h) (rs := ordM t i) (by rw [hol]; simp only [validB, headB, Bool.and_eq_true, decide_eq_true_eq] at hv; omega)
          have hsr := sameRowsP_spec (selT t (ordM t i)) t hsv hv (by show (t.cols.map _).length = _; simp) (sel_perm hne)
          have hasc := fun r h => sel_asc hv hlt hkB (r := r) h
          have hrs := rows3_spec (selT t (ordM t i))
          rw [sel_rowsN hne, hol] at hrs
          have hxs : (colRows (selT t (ordM t i)).cols)[i]? = some (selC t.cols[i] (ordM t i)).row := by
            rw [colRows_get (by show i < (t.cols.map _).length; simpa using hlt)]
            show some (Column.row ((t.cols.map fun c => selC c (ordM t i))[i]'_)) = _
            simp
          rw [hc] at hxs hasc
          generalize selC c (ordM t i) = sc at *
          generalize selT t (ordM t i) = st at *
          cases kr with
          | nil => simp at hk5
          | cons x rest =>
            simp only [List.head?_cons, Option.some.injEq] at hk5
            have hg := hg0 x rest rfl
            simp only [List.length_cons] at hlk
            (refine gGo ?_; intros)
            refine rowAt_of (by simpa using hg) ?_
            conv => whnf
            (refine gGo ?_; intros)
            (refine gPC (hsel) ?_; conv => whnf)
            (refine gGo ?_; intros)
            (refine gPC (hsr) ?_; conv => whnf)
            (refine gGo ?_; intros)
            refine W.leG (mp := []) (bo := [14]) (st' := ⟨[(4, .ro t.row 0), (5, .sl (intRows .i64 (keysTo t t.cols.length)) false), (6, .int .i64 ((keysTo t (i + 1)).length : Nat)), (7, .int .i64 (i : Nat)), (14, .ro st.row 0), (28, .sl (colRows t.cols) false), (29, .int .i64 (colRows t.cols).length), (30, .int .i64 (i : Nat)), (16, .int .i64 (0 + 1 : Nat))], [], []⟩)
              (LeG.mk' rfl rfl rfl (by repeat' (first | exact trivial | exact ⟨_, .refl _, rfl⟩ | exact ⟨_, .bp 14 0 3 st.row none rfl rfl (by simp) (.inr rfl), rfl⟩ | (rw [hsl2]; exact ⟨_, .refl _, rfl⟩) | apply And.intro)) .nil rfl rfl (by rw [hK]; rfl)) ?_
            refine W.loopG (fun m s1 => ∃ r : Nat, r ≤ rowsN t ∧ m = rowsN t - r ∧ s1 = ⟨[(4, .ro t.row 0), (5, .sl (intRows .i64 (keysTo t t.cols.length)) false), (6, .int .i64 ((keysTo t (i + 1)).length : Nat)), (7, .int .i64 (i : Nat)), (14, .ro st.row 0), (28, .sl (colRows t.cols) false), (29, .int .i64 (colRows t.cols).length), (30, .int .i64 (i : Nat)), (16, .int .i64 (r + 1 : Nat))], [], []⟩)
              (rowsN t) _ ⟨0, by omega, by omega, rfl⟩ ⟨[], [], [], .mq .nil⟩ ?_
            rintro m s1 ⟨r, hr, rfl, rfl⟩
            (refine gGo ?_; intros)
            (refine gPC (hrs) ?_; conv => whnf)
            (refine gGo ?_; intros)
            refine boolRes_split (fun hb => ?_) (fun hb => ?_) <;> conv => whnf
            · obtain ⟨h1, h2, hlt2⟩ := hasc r (by omega)
              have hg1 := cellRows_get h1
              have hg2 := cellRows_get h2
              generalize sc.cells[r] = u at *
              generalize sc.cells[r + 1] = v at *
              (refine gGo ?_; intros)
              refine rowAt_of (by simpa using hxs) ?_
              conv => whnf
              (refine gGo ?_; intros)
              refine rowAt_of (r := u.row) (by rw [show ((r + 1 : Nat) : Int) - 1 = (r : Nat) by omega, Int.toNat_natCast]; exact hg1) ?_
              conv => whnf
              (refine gGo ?_; intros)
              refine rowAt_of (by simpa using hxs) ?_
              conv => whnf
              (refine gGo ?_; intros)
              refine rowAt_of (by simpa using hg2) ?_
              conv => whnf
              (refine gGo ?_; intros)
              refine gL (by rw [hlt2]; simp) ?_
              conv => whnf
              (refine gGo ?_; intros)
              refine ⟨_, _, ?_, ⟨r + 1, by omega, rfl, rfl⟩, ⟨[], [], [], .mq .nil⟩⟩
              omega
            · (refine gGo ?_; intros)
              refine ⟨_, _, ?_, ⟨i + 1, by omega, rfl, rfl⟩, ⟨[], [], [], .mq .nil⟩⟩
              omega
    · have hie : i = t.cols.length := by omega
      rw [hie]
      (refine gGo ?_; intros)
      (refine gPC (spA) ?_; conv => whnf)
      (refine gGr ?_; intros)
      exact ret0 rfl rfl rfl
  · rw [decide_eq_false hll] at spL
    (refine gGo ?_; intros)
    (refine gPC (spL) ?_; conv => whnf)
    (refine gGo ?_; intros)
    (refine gPC (spA) ?_; conv => whnf)
    (refine gGr ?_; intros)
    exact ret0 rfl rfl rfl
end Go.Sx.Sp
namespace Go.Sx.Sp
open Go Go.Sx Go.Proofs
attribute [local irreducible] GoodW
theorem arg_ints {n : Nat} {u : V} (hs : argShape T (n + 2) 22 u) : ∃ l : List Int, u = .sl (intRows .i64 l) false := by
  obtain ⟨rows, hr, _, h⟩ := shape_sl (T := T) (t := 22) rfl (argShape_one (T := T) (t := 22) rfl rfl hs)
  obtain ⟨l, rfl, _⟩ := rows_map (f := fun x : Int => [V.int .i64 x]) (p := fun _ => True) (rows := rows) fun r hr => by
    obtain ⟨x, rfl, _⟩ := shape_int (T := T) (t := 3) rfl (h r hr)
    exact ⟨x, rfl, trivial⟩
  cases hr
  exact ⟨l, rfl⟩
theorem keys_calls {w : World} {v0 : Value} {u0 : V} (r0 : VRel w (fun _ => False) (fun _ _ => none) u0 v0) (a0 : argShape T 2 22 u0) (hg : GRel w (fun _ => False)) :
    Calls Tryz.prog 4 #[v0] w fun e w' => e = .returned (.bool true) ∧ Go.RowKit.Below w.heap.size w w' := by
  obtain ⟨l, rfl⟩ := arg_ints a0
  refine Spec.law (keys_law l) (cargs := [v0]) rfl (fun j u c hj hc => ?_) rfl hg
  match j with
  | 0 => cases hj; cases hc; exact r0
  | j + 1 => cases hj
end Go.Sx.Sp
