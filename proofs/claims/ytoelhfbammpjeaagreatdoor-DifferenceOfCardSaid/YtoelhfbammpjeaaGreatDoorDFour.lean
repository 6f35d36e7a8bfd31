/- Rows in the order of a key, and drawn keys. -/
import Derived.Test.YtoelhfbammpjeaaGreatDoorETwo
import Derived.Test.YtoelhfbammpjeaaGreatDoorSxFour
set_option linter.unusedVariables false
set_option linter.unusedSimpArgs false
namespace Go.Sx.Sp
open Go Go.Sx Go.Proofs Go.Sort
attribute [local irreducible] GoodW
set_option maxHeartbeats 4000000 in
theorem withS_spec (t : Table) (rs : List Nat) (hn : t.cols.length ≤ 4294967295) (hr : rs.length ≤ 4294967295) (h : ∀ c ∈ t.cols, ∀ i ∈ rs, i < c.cells.length) : Spec Tryz.prog 77 [.agg t.row, .int .i64 t.cols.length, .fn 78 [.ro t.row 0, .ro [.sl (intRows .i64 (natL rs)) false] 0]] [] (.agg (selT t rs).row) [] := by
  refine gEn env Tryz.func77 fun Γ hN hK hML => ?_
  (refine gGo ?_; intros)
  refine W.ownCell 7 0 2 90 2 rfl rfl rfl rfl rfl ?_
  refine W.loopG (fun m st => ∃ k : Nat, k ≤ t.cols.length ∧ m = t.cols.length - k ∧ st = ⟨[(2, .fn 78 [.ro t.row 0, .ro [.sl (intRows .i64 (natL rs)) false] 0]), (6, .bp 6 0), (7, .bp 7 0), (14, .int .i64 t.cols.length), (15, .int .i64 k)],
      [(6, [.rows 3 [[.int .i64 0, .str [], .nils]] none]), (7, [.rows 3 [[.int .i64 t.id, .str t.name, .osl 90 0 0 k k]] none]), (90, [.rows 2 (colRows ((t.cols.take k).map fun c => selC c rs)) (some [])])], [6, 7, 90]⟩)
    t.cols.length _ ⟨0, by omega, by omega, rfl⟩ ⟨[(6, 6), (7, 7), (90, 90)], [], [], .mq (.ci 6 (.ci 7 (.ci 90 .nil)))⟩ ?_
  rintro m st ⟨k, hk, rfl, rfl⟩
  (refine gGo ?_; intros)
  refine boolRes_split (fun hb => ?_) (fun hb => ?_) <;> conv => whnf
  · have hlt : k < t.cols.length := by omega
    have sp := select1_spec t rs k hlt (h _ (List.getElem_mem hlt)) hr
    have hsn : ((t.cols.take (k + 1)).map fun c => selC c rs) = ((t.cols.take k).map fun c => selC c rs) ++ [selC t.cols[k] rs] := by rw [List.take_succ_eq_append_getElem hlt, List.map_append]; rfl
    have hcl : (colRows ((t.cols.take k).map fun c => selC c rs)).length = k := by rw [colRows_len, List.length_map, List.length_take]; omega
    generalize t.cols[k] = c at *
    (refine gGo ?_; intros)
    (refine gPC (sp) ?_; conv => whnf)
    (refine gGo ?_; intros)
    refine ⟨⟨rowsSz_cons rfl rowsSz_nil, hcl.symm⟩, fitN (n := k + 1) (b := 40) (by omega) (by omega), .inl ⟨rfl, rfl, ?_⟩⟩
    conv => whnf
    (refine gGo ?_; intros)
    refine ⟨_, _, ?_, ⟨k + 1, by omega, rfl, rfl⟩, [(6, 6), (7, 7), (90, 90)], [], [], LeG.mq (.ci 6 (.cons 7 rfl rfl (.refl _) ?_ (.cons 90 rfl rfl (.refl _) ?_ .nil)))⟩
    · omega
    · rfl
    · rw [hsn, colRows_snocS]; rfl
  · have hke : k = t.cols.length := by omega
    have e2 : (t.cols.take k).map (fun c => selC c rs) = t.cols.map fun c => selC c rs := by rw [hke, List.take_length]
    have hcl : k = (colRows (t.cols.map fun c => selC c rs)).length := by rw [colRows_len, List.length_map, hke]
    rw [e2]
    refine W.leG (mp := [(6, 6), (7, 7)]) (bo := [90]) (st' := ⟨[(6, .bp 6 0), (7, .bp 7 0), (16, .bool false)], [(6, [.rows 3 [[.int .i64 0, .str [], .nils]] none]), (7, [.rows 3 [(selT t rs).row] none])], [6, 7]⟩)
      (LeG.mq (.ci 6 (.cons 7 (b1 := .rows 3 [(selT t rs).row] none) rfl rfl (.rows _ _ _ ⟨⟨⟨.refl _, rfl⟩, ⟨.refl _, rfl⟩, ⟨Lent.whole rfl rfl hcl rfl (by first | exact .inl rfl | exact .inr rfl), rfl⟩, trivial⟩, trivial⟩) rfl .nil))) ?_
    (refine gGr ?_; intros)
    exact ret0 rfl rfl rfl
set_option maxHeartbeats 4000000 in
theorem select_spec (t : Table) (rs : List Nat) (hv : validB t = true) (h : ∀ i ∈ rs, i < rowsN t) (hl : rs.length ≤ 4096) : Spec Tryz.prog 46 [.agg t.row, .sl (intRows .i64 (natL rs)) false] [] (.tup [.agg (selT t rs).row, .int .i64 0]) [] := by
  have sp1 := valid_spec t
  rw [hv] at sp1
  have sp2 := rows_spec t
  have sp3 := within_spec rs (rowsN t) h
  have hr := natLRows_len rs
  have hcl := colRows_len t.cols
  have f64 : t.cols.length ≤ 4294967295 := by
    simp only [validB, headB, Bool.and_eq_true, decide_eq_true_eq] at hv; omega
  have sp4 := withS_spec t rs f64 (by omega) (fun c hc i hi => by rw [valid_cells hv c hc]; exact h i hi)
  rw [← hcl] at sp4
  refine gEn env Tryz.func46 fun Γ hN hK hML => ?_
  refine gA ?_
  (refine gE env hN (by kernel_rfl) ?_; conv => whnf)
  (refine gGs ?_; intros)
  refine gA ?_
  refine W.leG (mp := [(4, 4)]) (bo := [2, 3]) (st' := ⟨[(2, .ro t.row 0), (3, .ro [.sl (intRows .i64 (natL rs)) false] 0), (4, .bp 4 0), (5, .int .i64 0)], [(4, [.rows 3 [[.int .i64 0, .str [], .nils]] none])], [4]⟩)
    (LeG.mk' rfl rfl rfl ⟨⟨_, .bp 2 0 3 t.row none rfl rfl (by simp) (.inr rfl), rfl⟩, ⟨_, .bp 3 0 1 [.sl (intRows .i64 (natL rs)) false] none rfl rfl (by simp) (.inr rfl), rfl⟩, ⟨_, .refl _, rfl⟩, ⟨_, .refl _, rfl⟩, trivial⟩ (.ci 4 .nil) rfl rfl (by rw [hK]; rfl)) ?_
  (refine gGo ?_; intros)
  (refine gPC (sp1) ?_; conv => whnf)
  (refine gGo ?_; intros)
  (refine gPC (sp2) ?_; conv => whnf)
  (refine gGo ?_; intros)
  (refine gPC (sp3) ?_; conv => whnf)
  (refine gGo ?_; intros)
  (refine gPC (sp4) ?_; conv => whnf)
  (refine gGr ?_; intros)
  exact ret0 rfl rfl rfl
end Go.Sx.Sp
namespace Go.Sx.Sp
open Go Go.Sx Go.Proofs Go.Sort
attribute [local irreducible] GoodW
def ordM (t : Table) (k : Nat) : List Nat := sortK (fun i => (cellI (colK t k) i).text) (List.range (rowsN t))
def sortedM (t : Table) (key : Int) : Table × Int := if validB t = true then (if checkM key [t] = 0 then (selT t (ordM t key.toNat), 0) else (Table.zero, checkM key [t])) else (Table.zero, 1)
def natRowsS (l : List Nat) : List (List V) := intRows .i64 (natL l)
theorem natRowsS_len (l : List Nat) : (natRowsS l).length = l.length := natLRows_len l
theorem sortRows_spec (cs : List Cell) (hd : (textsOf cs).Nodup) (hn : cs.length < 4611686018427387904) : Spec Tryz.prog 43 [.osl 0 0 0 (natRowsS (List.range cs.length)).length (natRowsS (List.range cs.length)).length, .fn 44 [.ro [.sl (cellRows cs) false] 0]] [(0, .rows 1 (natRowsS (List.range cs.length)) (some []))] (.tup [])
    [(0, .rows 1 (natRowsS (sortK (fun i => (cellI cs i).text) (List.range cs.length))) (some []))] := by
  have hget : ∀ i j : Nat, i < cs.length → j < cs.length → (cellI cs i).text = (cellI cs j).text → i = j := fun i j hi hj e => nodup_get hd hi hj e
  have hdl : DistK (fun i => (cellI cs i).text) (List.range cs.length) := by
    unfold DistK
    rw [List.pairwise_iff_getElem]
    intro i j hi hj hij e
    simp only [List.getElem_range] at e
    have := hget i j (by simpa using hi) (by simpa using hj) e
    omega
  have h := sortOne_spec Tryz.sortInt (fun i : {i // i < cs.length} => V.int .i64 (i.1 : Nat)) (cmpK fun i => (cellI cs i.1).text) (cmpK_swo _) (cmpK_tot fun a b e => Subtype.ext (hget _ _ a.2 b.2 e)) 44 [.ro [.sl (cellRows cs) false] 0] (fun u hu => by simp at hu; subst hu; rfl)
    (fun a b => byRow_spec cs a.1 b.1 a.2 b.2) ((List.range cs.length).attach.map fun x => ⟨x.1, List.mem_range.1 x.2⟩) (by simpa using hn)
  have hc : ∀ m : List {i // i < cs.length}, oneR (fun i : {i // i < cs.length} => V.int .i64 (i.1 : Nat)) m = natRowsS (m.map Subtype.val) := fun m => by
    unfold oneR natRowsS intRows natL
    rw [List.map_map, List.map_map]
    rfl
  have hm : (((List.range cs.length).attach.map fun x => (⟨x.1, List.mem_range.1 x.2⟩ : {i // i < cs.length})).map Subtype.val) = List.range cs.length := by
    rw [List.map_map]
    show (List.range cs.length).attach.map Subtype.val = _
    exact List.attach_map_subtype_val _
  have hT : ((((List.range cs.length).attach.map fun x => (⟨x.1, List.mem_range.1 x.2⟩ : {i // i < cs.length})).mergeSort (fun a b => !(ltOf (cmpK fun i : {i // i < cs.length} => (cellI cs i.1).text) b a))).map Subtype.val) = sortK (fun i => (cellI cs i).text) (List.range cs.length) := by
    generalize hM : ((List.range cs.length).attach.map fun x => (⟨x.1, List.mem_range.1 x.2⟩ : {i // i < cs.length})) = M at *
    have hdM : DistK (fun i : {i // i < cs.length} => (cellI cs i.1).text) M := by
      have h2 : (M.map Subtype.val).Pairwise fun a b => (cellI cs a).text ≠ (cellI cs b).text := by rw [hm]; exact hdl
      rw [List.pairwise_map] at h2
      exact h2
    refine ascK_ext (key := fun i => (cellI cs i).text) ?_ (sortK_asc hdl) fun t => ?_
    · unfold AscK
      rw [List.pairwise_map]
      exact cmpK_asc (key := fun r : {i // i < cs.length} => (cellI cs r.1).text) _ hdM
    · rw [sortK_mem, ← hm]
      simp only [List.mem_map, (List.mergeSort_perm _ _).mem_iff]
  rw [hc, hc, hT, hm] at h
  exact h
def fillL (n k : Nat) : List Nat := (List.range n).map fun i => if i < k then i else 0
theorem fillL_len (n k : Nat) : (fillL n k).length = n := by simp [fillL]
theorem fillL_zero (n : Nat) : natRowsS (fillL n 0) = List.replicate n [.int .i64 0] := by
  unfold natRowsS natL fillL
  simp only [intRows, List.map_map]
  rw [List.eq_replicate_iff]
  refine ⟨by simp, fun b hb => ?_⟩
  obtain ⟨i, _, rfl⟩ := List.mem_map.1 hb
  simp
theorem fillL_all (n : Nat) : fillL n n = List.range n := by
  unfold fillL
  conv => rhs; rw [← List.map_id (List.range n)]
  refine List.map_congr_left fun i hi => ?_
  rw [if_pos (List.mem_range.1 hi)]; rfl
theorem fillL_set {n k : Nat} (h : k < n) : (natRowsS (fillL n k)).set k [.int .i64 (k : Nat)] = natRowsS (fillL n (k + 1)) := by
  refine List.ext_getElem (by simp [natRowsS_len, fillL_len]) fun i h1 h2 => ?_
  have hi : i < n := by rw [natRowsS_len, fillL_len] at h2; exact h2
  rw [List.getElem_set]
  simp only [natRowsS, intRows, natL, fillL, List.getElem_map, List.getElem_range]
  by_cases e : k = i
  · subst e; simp
  · rw [if_neg e]
    by_cases e2 : i < k
    · rw [if_pos e2, if_pos (by omega)]
    · rw [if_neg e2, if_neg (by omega)]
set_option maxHeartbeats 8000000 in
theorem sorted1_spec (t : Table) (key : Int) : Spec Tryz.prog 14 [.agg t.row, .int .i64 key] [] (.tup [.agg (sortedM t key).1.row, .int .i64 (sortedM t key).2]) [] := by
  have sp1 := valid_spec t
  have sp2 := check_spec key [t]
  have sp3 := rows_spec t
  refine gEn env Tryz.func14 fun Γ hN hK hML => ?_
  cases hv : validB t with
  | false =>
    have hT : sortedM t key = (Table.zero, 1) := by simp [sortedM, hv]
    rw [hT]
    rw [hv] at sp1
    (refine gGo ?_; intros)
    (refine gPC (sp1) ?_; conv => whnf)
    (refine gGr ?_; intros)
    exact ret0 rfl rfl rfl
  | true =>
    rw [hv] at sp1
    by_cases hck : checkM key [t] = 0
    · have hT : sortedM t key = (selT t (ordM t key.toNat), 0) := by simp [sortedM, hv, hck]
      rw [hT]
      rw [hck] at sp2
      have hin : inB key t = true ∧ keyB (colK t key.toNat) = true := by
        unfold checkM at hck
        split at hck
        · rename_i h1
          split at hck
          · rename_i h2
            simp only [List.all_cons, List.all_nil, Bool.and_true] at h1 h2
            exact ⟨h1, h2⟩
          · simp at hck
        · simp at hck
      obtain ⟨i1, i3⟩ := hin
      unfold inB at i1
      have i1 := of_decide_eq_true i1
      obtain ⟨k, rfl⟩ : ∃ k : Nat, key = k := ⟨key.toNat, by omega⟩
      simp only [Int.toNat_natCast] at *
      have hk : k < t.cols.length := by omega
      have eA : colK t k = t.cols[k].cells := by simp [colK, hk]
      have lA : (colK t k).length = rowsN t := by rw [eA]; exact valid_cells hv _ (List.getElem_mem hk)
      obtain ⟨nA, dA⟩ := (keyB_iff _).1 i3
      have hn := validB_n hv
      have sp4 := sortRows_spec (colK t k) dA (by omega)
      have hperm : ∀ i, i ∈ ordM t k → i < rowsN t := fun i hi => List.mem_range.1 ((sortK_mem _ _ _).1 hi)
      have hol : (ordM t k).length = rowsN t := by unfold ordM; rw [sortK_len]; simp
      have sp5 := select_spec t (ordM t k) hv hperm (by rw [hol]; simp only [validB, headB, Bool.and_eq_true, decide_eq_true_eq] at hv; omega)
      have hcl := colRows_len t.cols
      have hx := colRows_get hk
      rw [lA] at sp4
      rw [show sortK (fun i => (cellI (colK t k) i).text) (List.range (rowsN t)) = ordM t k from rfl] at sp4
      have hl1 := natRowsS_len (List.range (rowsN t))
      rw [List.length_range] at hl1
      have hl2 := natRowsS_len (ordM t k)
      rw [hol] at hl2
      generalize t.cols[k] = c at *
      generalize ordM t k = rs at *
      generalize colK t k = C at *
      subst eA
      (refine gGo ?_; intros)
      (refine gPC (sp1) ?_; conv => whnf)
      (refine gGo ?_; intros)
      (refine gPC (sp2) ?_; conv => whnf)
      (refine gGo ?_; intros)
      (refine gPC (sp3) ?_; conv => whnf)
      (refine gGo ?_; intros)
      refine And.intro ⟨by omega, by omega, show (rowsN t : Int) * 8 ≤ 140737488355328 by omega, by omega⟩ ?_
      rw [Int.toNat_natCast]
      conv => whnf
      (refine gGo ?_; intros)
      refine And.intro (List.length_replicate).symm fun _ => ?_
      conv => whnf
      (refine gGo ?_; intros)
      refine W.loopG (fun m st => ∃ j : Nat, j ≤ rowsN t ∧ m = rowsN t - j ∧ st = ⟨[(1, .int .i64 k), (2, .bp 2 0), (4, .bp 4 0), (5, .int .i64 0), (7, .osl 60 0 0 (rowsN t) (rowsN t)), (26, .int .i64 (rowsN t)), (27, .int .i64 j)],
          [(2, [.rows 3 [t.row] none]), (4, [.rows 3 [[.int .i64 0, .str [], .nils]] none]), (60, [.rows 1 (natRowsS (fillL (rowsN t) j)) (some [])])], [2, 4, 60]⟩)
        (rowsN t) _ ⟨0, by omega, by omega, rfl⟩ ⟨[(2, 2), (4, 4), (24, 60)], [], [], LeG.mq (.ci 2 (.ci 4 (.cons 24 rfl rfl (.refl _) (by rw [fillL_zero]; rfl) .nil)))⟩ ?_
      rintro m st ⟨j, hj, rfl, rfl⟩
      have hfl := natRowsS_len (fillL (rowsN t) j)
      rw [fillL_len] at hfl
      (refine gGo ?_; intros)
      refine boolRes_split (fun hb => ?_) (fun hb => ?_) <;> conv => whnf
      · have hlt : j < rowsN t := by omega
        have hset := fillL_set hlt
        have hgj := natL_get (rs := fillL (rowsN t) j) (i := j) (by rw [fillL_len]; exact hlt)
        generalize (fillL (rowsN t) j)[j]'(by rw [fillL_len]; exact hlt) = r0 at hgj
        (refine gGo ?_; intros)
        refine rowAt_of (r := [.int .i64 (r0 : Nat)]) (by rw [Nat.zero_add, Int.toNat_natCast]; exact hgj) ?_
        conv => whnf
        (refine gGo ?_; intros)
        refine ⟨_, _, ?_, ⟨j + 1, by omega, rfl, rfl⟩, [(2, 2), (4, 4), (60, 60)], [], [], LeG.mq (.ci 2 (.ci 4 (.cons 60 rfl rfl (.refl _) ?_ .nil)))⟩
        · omega
        · rw [← hset, Nat.zero_add, Int.toNat_natCast]; rfl
      · have hje : j = rowsN t := by omega
        rw [hje, fillL_all]
        refine W.leG (mp := [(4, 4), (60, 60)]) (bo := [2]) (st' := ⟨[(1, .int .i64 k), (2, .ro t.row 0), (4, .bp 4 0), (5, .int .i64 0), (7, .osl 60 0 0 (rowsN t) (rowsN t)), (28, .bool false)], [(4, [.rows 3 [[.int .i64 0, .str [], .nils]] none]), (60, [.rows 1 (natRowsS (List.range (rowsN t))) (some [])])], [4, 60]⟩)
          (LeG.mk' rfl rfl rfl ⟨⟨_, .refl _, rfl⟩, ⟨_, .bp 2 0 3 t.row none rfl rfl (by simp) (.inr rfl), rfl⟩, ⟨_, .refl _, rfl⟩, ⟨_, .refl _, rfl⟩, ⟨_, .refl _, rfl⟩, ⟨_, .refl _, rfl⟩, trivial⟩ (.ci 4 (.ci 60 .nil)) rfl rfl (by rw [hK]; rfl)) ?_
        (refine gGo ?_; intros)
        refine rowAt_of (by simpa using hx) ?_
        conv => whnf
        (refine gGs ?_; intros)
        refine gA ?_
        refine W.leG (mp := [(4, 4), (60, 60)]) (bo := [9]) (st' := ⟨[(2, .ro t.row 0), (4, .bp 4 0), (7, .osl 60 0 0 (rowsN t) (rowsN t)), (9, .ro [.sl (cellRows c.cells) false] 0)], [(4, [.rows 3 [[.int .i64 0, .str [], .nils]] none]), (60, [.rows 1 (natRowsS (List.range (rowsN t))) (some [])])], [4, 60]⟩)
          (LeG.mk' rfl rfl rfl ⟨⟨_, .refl _, rfl⟩, ⟨_, .refl _, rfl⟩, ⟨_, .refl _, rfl⟩, ⟨_, .bp 9 0 1 [.sl (cellRows c.cells) false] none rfl rfl (by simp) (.inr rfl), rfl⟩, trivial⟩ (.ci 4 (.ci 60 .nil)) rfl rfl (by rw [hK]; rfl)) ?_
        rw [hl1] at sp4
        (refine gGo ?_; intros)
        (refine gCA [(0, 60)] [] [] (sp4) ?_; conv => whnf)
        (refine gGs ?_; intros)
        refine gA ?_
        refine W.leG (mp := [(4, 4)]) (bo := [60]) (st' := ⟨[(2, .ro t.row 0), (4, .bp 4 0), (7, .sl (natRowsS rs) false)], [(4, [.rows 3 [[.int .i64 0, .str [], .nils]] none])], [4]⟩)
          (LeG.mk' rfl rfl rfl ⟨⟨_, .refl _, rfl⟩, ⟨_, .refl _, rfl⟩, ⟨_, Lent.whole rfl rfl hl2.symm rfl (by first | exact .inl rfl | exact .inr rfl), rfl⟩, trivial⟩ (.ci 4 .nil) rfl rfl (by rw [hK]; rfl)) ?_
        rw [show intRows .i64 (natL rs) = natRowsS rs from rfl] at sp5
        (refine gGo ?_; intros)
        (refine gPC (sp5) ?_; conv => whnf)
        (refine gGr ?_; intros)
        exact ret0 rfl rfl rfl
    · have hT : sortedM t key = (Table.zero, checkM key [t]) := by simp [sortedM, hv, hck]
      rw [hT]
      (refine gGo ?_; intros)
      (refine gPC (sp1) ?_; conv => whnf)
      (refine gGo ?_; intros)
      (refine gPC (sp2) ?_; conv => whnf)
      (refine gGo ?_; intros)
      (refine gGr ?_; intros)
      exact ret0 rfl rfl rfl
end Go.Sx.Sp
namespace Go.Sx.Sp
open Go Go.Sx Go.Proofs
attribute [local irreducible] GoodW
theorem bytesLess_iff : ∀ a b : Str, Op.bytesLess a b = true ↔ Lib.compareBytes a b < 0
  | [], [] => by decide
  | [], _ :: _ => by simp [Op.bytesLess, Lib.compareBytes]
  | _ :: _, [] => by simp [Op.bytesLess, Lib.compareBytes]
  | x :: a, y :: b => by
    have ih := bytesLess_iff a b
    unfold Op.bytesLess Lib.compareBytes
    by_cases h1 : x < y
    · simp [h1]
    · by_cases h2 : y < x
      · have h3 : x ≠ y := fun e => by subst e; exact h1 h2
        simp [h1, h2, h3]
      · have h3 : x = y := by
          rw [UInt8.lt_iff_toNat_lt] at h1 h2
          exact UInt8.toNat_inj.1 (by omega)
        subst h3
        simp [h1, ih]
theorem sortK_perm {α : Type} {key : α → Str} (l : List α) : (sortK key l).Perm l := by
  have hi : ∀ (l : List α) (x : α), (insK key l x).Perm (x :: l) := fun l x => by
    unfold insK
    refine List.perm_middle.trans ?_
    rw [List.take_append_drop]
  have h : ∀ (l s : List α), (l.foldl (insK key) s).Perm (l ++ s) := by
    intro l
    induction l with
    | nil => intro s; exact List.Perm.refl _
    | cons x l ih =>
      intro s
      rw [List.foldl_cons]
      refine (ih _).trans (((hi s x).append_left l).trans ?_)
      exact List.perm_middle
  have := h l []
  simpa [sortK] using this
theorem ordM_perm (t : Table) (k : Nat) : (ordM t k).Perm (List.range (rowsN t)) := sortK_perm _
theorem ordM_len (t : Table) (k : Nat) : (ordM t k).length = rowsN t := by rw [(ordM_perm t k).length_eq, List.length_range]
theorem ordM_lt {t : Table} {k i : Nat} (h : i ∈ ordM t k) : i < rowsN t := List.mem_range.1 ((ordM_perm t k).mem_iff.1 h)
end Go.Sx.Sp
namespace Go.Sx.Sp
open Go Go.Sx Go.Proofs
attribute [local irreducible] GoodW
end Go.Sx.Sp
namespace Go.Sx.Sp
open Go Go.Sx Go.Proofs
attribute [local irreducible] GoodW
theorem arg_ints {n : Nat} {u : V} (hs : argShape T (n + 2) 22 u) : ∃ l : List Int, u = .sl (intRows .i64 l) false := by
  obtain ⟨rows, hr, _, h⟩ := shape_sl (T := T) (t := 22) rfl (argShape_one (T := T) (t := 22) rfl rfl hs)
  obtain ⟨l, rfl, _⟩ := rows_map (f := fun x : Int => [V.int .i64 x]) (p := fun _ => True) (rows := rows) fun r hr => by
    obtain ⟨x, rfl, _⟩ := shape_int (T := T) (t := 3) rfl (h r hr)
    exact ⟨x, rfl, trivial⟩
  cases hr
  exact ⟨l, rfl⟩
theorem arg_int {n : Nat} {u : V} (hs : argShape T (n + 1) 3 u) : ∃ x : Int, u = .int .i64 x ∧ -9223372036854775808 ≤ x ∧ x ≤ 9223372036854775807 := by
  obtain ⟨x, h, h1, h2⟩ := shape_int (T := T) (t := 3) rfl (argShape_one (T := T) (t := 3) rfl rfl hs)
  cases h
  rw [show IntKind.i64.min = -9223372036854775808 by decide] at h1
  rw [show IntKind.i64.max = 9223372036854775807 by decide] at h2
  exact ⟨x, rfl, h1, h2⟩
end Go.Sx.Sp
