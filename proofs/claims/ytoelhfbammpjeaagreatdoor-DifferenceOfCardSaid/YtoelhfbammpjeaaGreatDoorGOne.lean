/- Operations that lead from one table to another. -/
import Derived.Test.YtoelhfbammpjeaaGreatDoorDTwo
import Derived.Test.YtoelhfbammpjeaaGreatDoorFOne
import Derived.Test.YtoelhfbammpjeaaGreatDoorSxFour
set_option linter.unusedVariables false
set_option linter.unusedSimpArgs false
namespace Go.Sx.Sp
open Go Go.Sx Go.Proofs
attribute [local irreducible] GoodW
set_option maxHeartbeats 16000000 in
theorem keyed_own (l : List Int) (id : Int) (p : Nat) (hp : p ≤ l.length) : Spec Tryz.prog 8 [.bp 0 0, .int .i64 id] [(0, diceB l p)] (.agg [.int .i64 id, .str [], .osl 11 0 0 2 2]) [(0, diceB l (keyF l id p).2), (11, .rows 2 (colRows (keyF l id p).1.cols) none)] := by
  have hp1 := nextP_le hp
  have hr := nextV_range l p (n := 7) (by omega)
  have sp1 := next_spec l p 7 (by omega) hp
  have hK : keyF l id p = (keyT id (keyGo l (nextV l p 7).toNat (nextP l p) [] []).1, (keyGo l (nextV l p 7).toNat (nextP l p) [] []).2) := rfl
  rw [hK]
  clear hK
  obtain ⟨N, hN2⟩ : ∃ N : Nat, nextV l p 7 = N := ⟨_, (Int.toNat_of_nonneg hr.1).symm⟩
  rw [hN2] at sp1 hr ⊢
  rw [Int.toNat_natCast]
  refine gEn env Tryz.func8 fun Γ hN hK hML => ?_
  (refine gGl ?_; intros)
  refine Or.inl ?_
  conv => whnf
  (refine gGo ?_; intros)
  (refine ⟨_, _, _, callG [(0, 0)] [] [] rfl rfl rfl (by kernel_rfl) (sp1) (by repeat' (first | exact trivial | exact Lent.refl _ | exact Lent.norm _ | exact Lent.whole rfl rfl (by first | rfl | exact List.length_append.symm | exact hlenR | simp) rfl (by first | exact .inl rfl | exact .inr rfl) | apply And.intro)) rfl ⟨rfl, rfl, rfl, rfl, rfl, by repeat' (first | exact trivial | rfl | apply And.intro), rfl, rfl⟩, ?_⟩; conv => whnf)
  (refine gGo ?_; intros)
  refine W.leG (mp := [(0, 0), (4, 4), (5, 5), (11, 11), (13, 13)]) (bo := []) (st' := ⟨[(0, .bp 0 0), (4, .bp 4 0), (5, .bp 5 0), (6, .omap 13 0), (15, .int .i64 N), (16, .int .i64 0)], [(0, [diceB l (nextP l p)]), (4, [.rows 3 [[.int .i64 0, .str [], .nils]] none]), (5, [.rows 3 [[.int .i64 id, .str [], .osl 11 0 0 2 2]] none]), (11, [.rows 2 [[.str [118], .nils], [.str [107, 101, 121], .nils]] none]), (13, [.map [] 0 (some [])])], [0, 4, 5, 11, 13]⟩)
    (LeG.mq (.ci 0 (.ci 4 (.ci 5 (.ci 11 (.ci 13 .nil)))))) ?_
  refine W.ownCell 11 0 1 71 2 rfl rfl rfl rfl rfl ?_
  refine W.ownCell 11 1 1 72 2 rfl rfl rfl rfl rfl ?_
  refine W.loopG (fun m st => ∃ (n i q : Nat) (ks vs : List Str) (es : List (Nat × V × V)) (c : Nat), q ≤ l.length ∧ KeyedB es ks ∧ KeyOK (ks, vs) ∧ keyGo l N (nextP l p) [] [] = keyGo l n q ks vs ∧ n + i = N ∧ ks.length ≤ i ∧ m = n ∧ st = ⟨[(0, .bp 0 0), (4, .bp 4 0), (5, .bp 5 0), (6, .omap 13 0), (15, .int .i64 N), (16, .int .i64 i)], [(0, [diceB l q]), (4, [.rows 3 [[.int .i64 0, .str [], .nils]] none]), (5, [.rows 3 [[.int .i64 id, .str [], .osl 11 0 0 2 2]] none]), (11, [.rows 2 [[.str [118], .osl 71 0 0 (cellRows (vs.map cellOf)).length (cellRows (vs.map cellOf)).length], [.str [107, 101, 121], .osl 72 0 0 (cellRows (ks.map cellOf)).length (cellRows (ks.map cellOf)).length]] none]), (13, [.map es c (some [])]), (71, [.rows 2 (cellRows (vs.map cellOf)) (some [])]), (72, [.rows 2 (cellRows (ks.map cellOf)) (some [])])], [0, 4, 5, 11, 13, 71, 72]⟩)
    N _ ⟨N, 0, nextP l p, [], [], [], 0, hp1, ⟨rfl⟩, ⟨List.nodup_nil, rfl, fun _ h => (by cases h), fun _ h => (by cases h)⟩, rfl, rfl, Nat.le_refl _, rfl, rfl⟩ ⟨[(0, 0), (4, 4), (5, 5), (11, 11), (13, 13), (71, 71), (72, 72)], [], [], .mq (.ci 0 (.ci 4 (.ci 5 (.ci 11 (.ci 13 (.ci 71 (.ci 72 .nil)))))))⟩ ?_
  rintro m st ⟨n, i, q, ks, vs, es, c, hq, hes, hok, hgo, hni, hki, rfl, rfl⟩
  have hq1 := nextP_le hq
  have hkl := cellRows_len (ks.map cellOf)
  have hvl := cellRows_len (vs.map cellOf)
  have hlen : vs.length = ks.length := hok.len
  rw [List.length_map] at hkl hvl
  (refine gGo ?_; intros)
  refine boolRes_split (fun hb => ?_) (fun hb => ?_) <;> conv => whnf
  · obtain ⟨n', rfl⟩ : ∃ n', m = n' + 1 := ⟨m - 1, by omega⟩
    obtain ⟨w1, sp2⟩ := wordF_spec (ws := keyWords) (by decide) (by decide) hq
    obtain ⟨w2, sp3⟩ := wordF_spec (ws := valWords) (by decide) (by decide) hq1
    rw [show keyGo l (n' + 1) q ks vs = if wordF keyWords l q ∈ ks then keyGo l n' (nextP l q) ks vs else keyGo l n' (nextP l (nextP l q)) (ks ++ [wordF keyWords l q]) (vs ++ [wordF valWords l (nextP l q)]) from rfl] at hgo
    (refine gGo ?_; intros)
    (refine ⟨_, _, _, callG [(0, 0)] [] [] rfl rfl rfl (by kernel_rfl) (sp2) (by repeat' (first | exact trivial | exact Lent.refl _ | exact Lent.norm _ | exact Lent.whole rfl rfl (by first | rfl | exact List.length_append.symm | exact hlenR | simp) rfl (by first | exact .inl rfl | exact .inr rfl) | apply And.intro)) rfl ⟨rfl, rfl, rfl, rfl, rfl, by repeat' (first | exact trivial | rfl | apply And.intro), rfl, rfl⟩, ?_⟩; conv => whnf)
    (refine gGo ?_; intros)
    refine zok_intro (by kernel_rfl) ?_
    conv => whnf
    by_cases hm : wordF keyWords l q ∈ ks
    · rw [if_pos hm] at hgo
      obtain ⟨j, b, q1, q2⟩ := hes.yes hm
      refine ⟨_, q1, ?_⟩
      conv => whnf
      (refine gGo ?_; intros)
      refine ⟨_, _, ?_, ⟨n', i + 1, _, ks, vs, es, c, hq1, hes, hok, hgo, by omega, by omega, rfl, rfl⟩, ⟨[(0, 0), (4, 4), (5, 5), (11, 11), (13, 13), (71, 71), (72, 72)], [], [], .mq (.ci 0 (.ci 4 (.ci 5 (.ci 11 (.ci 13 (.ci 71 (.ci 72 .nil)))))))⟩⟩
      omega
    · rw [if_neg hm] at hgo
      refine ⟨_, hes.no hm, ?_⟩
      conv => whnf
      (refine gGo ?_; intros)
      refine ⟨_, hes.no hm, ?_⟩
      conv => whnf
      (refine gGo ?_; intros)
      refine ⟨⟨rowsSz_cons rfl rowsSz_nil, rfl⟩, fitsN (n := (cellRows (ks.map cellOf)).length + 1) (b := 24) (by omega) (by omega), .inl ⟨rfl, rfl, ?_⟩⟩
      conv => whnf
      (refine gGo ?_; intros)
      (refine ⟨_, _, _, callG [(0, 0)] [] [] rfl rfl rfl (by kernel_rfl) (sp3) (by repeat' (first | exact trivial | exact Lent.refl _ | exact Lent.norm _ | exact Lent.whole rfl rfl (by first | rfl | exact List.length_append.symm | exact hlenR | simp) rfl (by first | exact .inl rfl | exact .inr rfl) | apply And.intro)) rfl ⟨rfl, rfl, rfl, rfl, rfl, by repeat' (first | exact trivial | rfl | apply And.intro), rfl, rfl⟩, ?_⟩; conv => whnf)
      (refine gGo ?_; intros)
      refine ⟨⟨rowsSz_cons rfl rowsSz_nil, rfl⟩, fitsN (n := (cellRows (vs.map cellOf)).length + 1) (b := 24) (by omega) (by omega), .inl ⟨rfl, rfl, ?_⟩⟩
      conv => whnf
      (refine gGo ?_; intros)
      refine ⟨_, _, ?_, ⟨n', i + 1, _, _, _, _, _, nextP_le hq1, hes.snoc _ _, hok.snoc hm w1 w2, hgo, by omega, by simp; omega, rfl, rfl⟩, [(0, 0), (4, 4), (5, 5), (11, 11), (13, 13), (71, 71), (72, 72)], [], [], LeG.mq (.ci 0 (.ci 4 (.ci 5 (.cons 11 rfl rfl (.refl _) ?_ (.ci 13 (.cons 71 rfl rfl (.refl _) ?_ (.cons 72 rfl rfl (.refl _) ?_ .nil)))))))⟩
      · omega
      · rw [cellsOf_snoc, cellsOf_snoc, List.length_append, List.length_append]; rfl
      · rw [cellsOf_snoc]; rfl
      · rw [cellsOf_snoc]; rfl
  · have hm0 : m = 0 := by omega
    subst hm0
    rw [show keyGo l 0 q ks vs = ((ks, vs), q) from rfl] at hgo
    rw [hgo]
    (refine gGo ?_; intros)
    refine W.leG (mp := [(0, 0), (4, 4), (11, 11)]) (bo := [71, 72]) (st' := ⟨[(4, .bp 4 0)], [(0, [diceB l q]), (4, [.rows 3 [[.int .i64 id, .str [], .osl 11 0 0 2 2]] none]), (11, [.rows 2 [[.str [118], .sl (cellRows (vs.map cellOf)) false], [.str [107, 101, 121], .sl (cellRows (ks.map cellOf)) false]] none])], [0, 4, 11]⟩)
      (LeG.mq (.ci 0 (.ci 4 (.cons 11 (b1 := .rows 2 [[.str [118], .sl (cellRows (vs.map cellOf)) false], [.str [107, 101, 121], .sl (cellRows (ks.map cellOf)) false]] none) rfl rfl (.rows _ _ _ ⟨⟨⟨.refl _, rfl⟩, ⟨Lent.whole rfl rfl rfl rfl (.inl rfl), rfl⟩, trivial⟩, ⟨⟨.refl _, rfl⟩, ⟨Lent.whole rfl rfl rfl rfl (.inl rfl), rfl⟩, trivial⟩, trivial⟩) rfl .nil)))) ?_
    (refine gM ?_; conv => whnf)
    exact retH rfl (.refl _) rfl rfl rfl ⟨rfl, rfl, rfl, rfl, trivial⟩
end Go.Sx.Sp
namespace Go.Sx.Sp
open Go Go.Sx Go.Proofs
attribute [local irreducible] GoodW
inductive OpK where
  | eq (c : Nat) (s : Str)
  | full (c : Nat)
  | proj (ks : List Nat)
  | dist
  | sort (c : Nat)
def OpK.kind : OpK → Int
  | .eq _ _ => 1
  | .full _ => 2
  | .proj _ => 3
  | .dist => 4
  | .sort _ => 5
def OpK.col : OpK → Nat
  | .eq c _ => c
  | .full c => c
  | .proj _ => 0
  | .dist => 0
  | .sort c => c
def OpK.txt : OpK → Str
  | .eq _ s => s
  | _ => []
def OpK.ks : OpK → List Nat
  | .proj ks => ks
  | _ => []
def OpK.row (o : OpK) : List V := [.int .i64 o.kind, .int .i64 (o.col : Nat), .str o.txt, .sl (natRowsS o.ks) false]
def canB (t : Table) : OpK → Bool
  | .eq c s => decide (c < t.cols.length) && decide (s.length ≤ 1024)
  | .full c => decide (c < t.cols.length)
  | .proj ks => (ks.all fun k => decide (k < t.cols.length)) && decide (ks.length ≤ 64)
  | .dist => true
  | .sort c => decide (c < t.cols.length)
def eqRowB (t : Table) (x y : Nat) : Bool := t.cols.all fun c => decide (cellI c.cells x = cellI c.cells y)
def projC (t : Table) (k : Nat) : Column := t.cols.getD k ⟨[], []⟩
def projT (t : Table) (ks : List Nat) : Table := ⟨t.id, t.name, ks.map (projC t)⟩
def atK (cs : List Cell) (out : List Nat) (x : Cell) : Nat → Nat
  | 0 => 0
  | p + 1 => if 0 < cmpC (cellI cs (out.getD p 0)) x then atK cs out x p else p + 1
theorem atK_le (cs : List Cell) (out : List Nat) (x : Cell) : ∀ n, atK cs out x n ≤ n
  | 0 => Nat.le_refl _
  | p + 1 => by
    unfold atK
    split
    · have := atK_le cs out x p; omega
    · exact Nat.le_refl _
def opKeep (t : Table) (o : OpK) (out : List Nat) (r : Nat) : Bool := match o with
  | .eq c s => !(cellI (colK t c) r).null && decide ((cellI (colK t c) r).text = s)
  | .full c => !(cellI (colK t c) r).null
  | .dist => out.all fun x => !eqRowB t x r
  | _ => true
def opAt (t : Table) (o : OpK) (out : List Nat) (r : Nat) : Nat := match o with
  | .sort c => atK (colK t c) out (cellI (colK t c) r) out.length
  | _ => out.length
theorem opAt_le (t : Table) (o : OpK) (out : List Nat) (r : Nat) : opAt t o out r ≤ out.length := by
  unfold opAt
  split
  · exact atK_le _ _ _ _
  · exact Nat.le_refl _
def opIns (t : Table) (o : OpK) (out : List Nat) (r : Nat) : List Nat := if opKeep t o out r = true then out.take (opAt t o out r) ++ r :: out.drop (opAt t o out r) else out
def opRows (t : Table) (o : OpK) : Nat → List Nat
  | 0 => []
  | r + 1 => opIns t o (opRows t o r) r
theorem opIns_mem {t : Table} {o : OpK} {out : List Nat} {r x : Nat} (h : x ∈ opIns t o out r) : x ∈ out ∨ x = r := by
  unfold opIns at h
  split at h
  · rcases List.mem_append.1 h with h | h
    · exact .inl (List.mem_of_mem_take h)
    · rcases List.mem_cons.1 h with h | h
      · exact .inr h
      · exact .inl (List.mem_of_mem_drop h)
  · exact .inl h
theorem opRows_lt {t : Table} {o : OpK} : ∀ {n x : Nat}, x ∈ opRows t o n → x < n
  | 0, x, h => by cases h
  | n + 1, x, h => by
    rcases opIns_mem h with h | h
    · have := opRows_lt h; omega
    · omega
theorem opIns_len (t : Table) (o : OpK) (out : List Nat) (r : Nat) : (opIns t o out r).length ≤ out.length + 1 := by
  unfold opIns
  split
  · have := opAt_le t o out r
    simp; omega
  · omega
theorem opRows_len (t : Table) (o : OpK) : ∀ n, (opRows t o n).length ≤ n
  | 0 => Nat.le_refl _
  | n + 1 => by
    have h1 := opIns_len t o (opRows t o n) n
    have h2 := opRows_len t o n
    unfold opRows; omega
def doM (t : Table) : OpK → Table
  | .proj ks => projT t ks
  | o => selT t (opRows t o (rowsN t))
def runM (t : Table) (o : OpK) : Table × Int := if validB t = true then (if canB t o = true then (doM t o, 0) else (Table.zero, 24)) else (Table.zero, 1)
theorem few_valid {t : Table} (hv : validB t = true) : t.Few := by
  have hc := valid_cells hv
  have hn := validB_n hv
  refine ⟨?_, fun c h => ?_⟩
  · simp only [validB, headB, Bool.and_eq_true, decide_eq_true_eq] at hv; omega
  · rw [hc c h]; omega
theorem doM_few {t : Table} {o : OpK} (hv : validB t = true) (hc : canB t o = true) : (doM t o).Few := by
  have hf := few_valid hv
  have hn := validB_n hv
  have hsel : ∀ rs : List Nat, rs.length ≤ rowsN t → (selT t rs).Few := fun rs hr => by
    refine ⟨by simp [selT]; exact hf.cols, fun c h => ?_⟩
    simp only [selT, List.mem_map] at h
    obtain ⟨c', _, rfl⟩ := h
    simp [selC]; omega
  cases o with
  | proj ks =>
    simp only [canB, Bool.and_eq_true, decide_eq_true_eq, List.all_eq_true] at hc
    refine ⟨by simp [doM, projT]; omega, fun c h => ?_⟩
    simp only [doM, projT, List.mem_map] at h
    obtain ⟨k, hk, rfl⟩ := h
    have := hc.1 k hk
    rw [projC, List.getD_eq_getElem?_getD, List.getElem?_eq_getElem this]
    exact hf.cells _ (List.getElem_mem this)
  | _ => exact hsel _ (opRows_len _ _ _)
end Go.Sx.Sp
namespace Go.Sx.Sp
open Go Go.Sx Go.Proofs
attribute [local irreducible] GoodW
set_option maxHeartbeats 4000000 in
theorem equal38_spec (t : Table) (x y : Nat) (hx : ∀ c ∈ t.cols, x < c.cells.length) (hy : ∀ c ∈ t.cols, y < c.cells.length) (hn : t.cols.length ≤ 4294967295) : Spec Tryz.prog 108 [.agg t.row, .int .i64 (x : Nat), .int .i64 (y : Nat)] [] (.bool (eqRowB t x y)) [] := by
  have hcl := colRows_len t.cols
  have hdef : eqRowB t x y = true ↔ ∀ c ∈ t.cols, cellI c.cells x = cellI c.cells y := by simp [eqRowB]
  refine gEn env Tryz.func108 fun Γ hN hK hML => ?_
  refine gA ?_
  (refine gE env hN (by kernel_rfl) ?_; conv => whnf)
  (refine gGs ?_; intros)
  refine W.leG (mp := []) (bo := [3]) (st' := ⟨[(1, .int .i64 (x : Nat)), (2, .int .i64 (y : Nat)), (3, .ro t.row 0)], [], []⟩)
    (LeG.mk' rfl rfl rfl ⟨⟨_, .refl _, rfl⟩, ⟨_, .refl _, rfl⟩, ⟨_, .bp 3 0 3 t.row none rfl rfl (by simp) (.inr rfl), rfl⟩, trivial⟩ .nil rfl rfl (by rw [hK]; rfl)) ?_
  (refine gGo ?_; intros)
  refine W.loopG (fun m st => ∃ j : Nat, j ≤ t.cols.length ∧ (∀ c ∈ t.cols.take j, cellI c.cells x = cellI c.cells y) ∧ m = t.cols.length - j ∧ st = ⟨[(1, .int .i64 (x : Nat)), (2, .int .i64 (y : Nat)), (3, .ro t.row 0), (10, .sl (colRows t.cols) false), (11, .int .i64 (colRows t.cols).length), (12, .int .i64 (j : Nat))], [], []⟩)
    t.cols.length _ ⟨0, by omega, by simp, by omega, rfl⟩ ⟨[], [], [], .mq .nil⟩ ?_
  rintro m st ⟨j, hj, hall, rfl, rfl⟩
  (refine gGo ?_; intros)
  refine boolRes_split (fun hb => ?_) (fun hb => ?_) <;> conv => whnf
  · have hlt : j < t.cols.length := by omega
    have hg := colRows_get hlt
    have hxc := hx _ (List.getElem_mem hlt)
    have hyc := hy _ (List.getElem_mem hlt)
    have hsn : t.cols.take (j + 1) = t.cols.take j ++ [t.cols[j]] := List.take_succ_eq_append_getElem hlt
    have hbad : cellI t.cols[j].cells x ≠ cellI t.cols[j].cells y → eqRowB t x y = false := fun h => by
      cases hb : eqRowB t x y with
      | false => rfl
      | true => exact absurd (hdef.1 hb _ (List.getElem_mem hlt)) h
    have e1 : cellI t.cols[j].cells x = t.cols[j].cells[x] := by simp [cellI, hxc]
    have e2 : cellI t.cols[j].cells y = t.cols[j].cells[y] := by simp [cellI, hyc]
    have hg1 := cellRows_get hxc
    have hg2 := cellRows_get hyc
    generalize t.cols[j] = c at *
    generalize c.cells[x] = u at *
    generalize c.cells[y] = v at *
    (refine gGo ?_; intros)
    refine rowAt_of (by simpa using hg) ?_
    conv => whnf
    (refine gGo ?_; intros)
    refine rowAt_of (by simpa using hg1) ?_
    conv => whnf
    (refine gGo ?_; intros)
    refine rowAt_of (by simpa using hg2) ?_
    conv => whnf
    (refine gGo ?_; intros)
    refine ⟨_, _, _, cells_ne rfl u v rfl rfl (by kernel_rfl), ?_⟩
    by_cases e6 : u = v
    · rw [decide_eq_true e6]
      conv => whnf
      (refine gGo ?_; intros)
      refine ⟨_, _, ?_, ⟨j + 1, by omega, by
        rw [hsn]
        intro d hd
        rcases List.mem_append.1 hd with h | h
        · exact hall d h
        · simp at h; rw [h, e1, e2, e6], rfl, rfl⟩, ⟨[], [], [], .mq .nil⟩⟩
      omega
    · rw [decide_eq_false e6, hbad (by rw [e1, e2]; exact e6)]
      conv => whnf
      (refine gGr ?_; intros)
      exact ret0 rfl rfl rfl
  · have hje : j = t.cols.length := by omega
    rw [hje, List.take_length] at hall
    rw [hdef.2 hall]
    (refine gGr ?_; intros)
    exact ret0 rfl rfl rfl
set_option maxHeartbeats 8000000 in
theorem project3_spec (t : Table) (ks : List Nat) (hv : validB t = true) (h : ∀ k ∈ ks, k < t.cols.length) (hl : ks.length ≤ 64) : Spec Tryz.prog 85 [.agg t.row, .sl (natRowsS ks) false] [] (.tup [.agg (projT t ks).row, .int .i64 0]) [] := by
  have sp1 := valid3_spec t
  rw [hv] at sp1
  have hr := natRowsS_len ks
  have hcl := colRows_len t.cols
  have few : t.cols.length ≤ 64 := by simp only [validB, headB, Bool.and_eq_true, decide_eq_true_eq] at hv; omega
  refine gEn env Tryz.func85 fun Γ hN hK hML => ?_
  refine gA ?_
  (refine gE env hN (by kernel_rfl) ?_; conv => whnf)
  (refine gGs ?_; intros)
  refine W.leG (mp := [(4, 4)]) (bo := [2]) (st' := ⟨[(1, .sl (natRowsS ks) false), (2, .ro t.row 0), (4, .bp 4 0), (5, .int .i64 0)], [(4, [.rows 3 [[.int .i64 0, .str [], .nils]] none])], [4]⟩)
    (LeG.mk' rfl rfl rfl ⟨⟨_, .refl _, rfl⟩, ⟨_, .bp 2 0 3 t.row none rfl rfl (by simp) (.inr rfl), rfl⟩, ⟨_, .refl _, rfl⟩, ⟨_, .refl _, rfl⟩, trivial⟩ (.ci 4 .nil) rfl rfl (by rw [hK]; rfl)) ?_
  (refine gGo ?_; intros)
  (refine gPC (sp1) ?_; conv => whnf)
  (refine gGo ?_; intros)
  refine W.ownCell 6 0 2 90 2 rfl rfl rfl rfl rfl ?_
  refine W.loopG (fun m st => ∃ j : Nat, j ≤ ks.length ∧ m = ks.length - j ∧ st = ⟨[(1, .sl (natRowsS ks) false), (2, .ro t.row 0), (4, .bp 4 0), (5, .int .i64 0), (6, .bp 6 0), (18, .sl (natRowsS ks) false), (19, .int .i64 (natRowsS ks).length), (20, .int .i64 (j : Nat))], [(4, [.rows 3 [[.int .i64 0, .str [], .nils]] none]), (6, [.rows 3 [[.int .i64 t.id, .str t.name, .osl 90 0 0 j j]] none]), (90, [.rows 2 (colRows ((ks.take j).map (projC t))) (some [])])], [4, 6, 90]⟩)
    ks.length _ ⟨0, by omega, by omega, rfl⟩ ⟨[(4, 4), (6, 6), (90, 90)], [], [], .mq (.ci 4 (.ci 6 (.ci 90 .nil)))⟩ ?_
  rintro m st ⟨j, hj, rfl, rfl⟩
  have hcl8 : (colRows ((ks.take j).map (projC t))).length = j := by rw [colRows_len, List.length_map, List.length_take]; omega
  (refine gGo ?_; intros)
  refine boolRes_split (fun hb => ?_) (fun hb => ?_) <;> conv => whnf
  · have hlt : j < ks.length := by omega
    have hg := natRowsS_get hlt
    have hi := h _ (List.getElem_mem hlt)
    have hsn : ((ks.take (j + 1)).map (projC t)) = ((ks.take j).map (projC t)) ++ [projC t ks[j]] := by rw [List.take_succ_eq_append_getElem hlt, List.map_append]; rfl
    generalize ks[j] = k at *
    have hgk := colRows_get hi
    have hpk : projC t k = t.cols[k] := by simp [projC, hi]
    rw [← hpk] at hgk
    (refine gGo ?_; intros)
    refine rowAt_of (by simpa using hg) ?_
    conv => whnf
    (refine gGo ?_; intros)
    refine rowAt_of (by simpa using hgk) ?_
    conv => whnf
    (refine gGo ?_; intros)
    refine ⟨⟨rowsSz_cons rfl rowsSz_nil, hcl8.symm⟩, fitN (n := j + 1) (b := 40) (by omega) (by omega), .inl ⟨rfl, rfl, ?_⟩⟩
    conv => whnf
    (refine gGo ?_; intros)
    refine ⟨_, _, ?_, ⟨j + 1, by omega, rfl, rfl⟩, [(4, 4), (6, 6), (90, 90)], [], [], LeG.mq (.ci 4 (.ci 6 (.cons 90 rfl rfl (.refl _) (by rw [hsn, colRows_snocS]; rfl) .nil)))⟩
    omega
  · have hje : j = ks.length := by omega
    have e2 : (ks.take j).map (projC t) = ks.map (projC t) := by rw [hje, List.take_length]
    have hcl3 : j = (colRows (ks.map (projC t))).length := by rw [colRows_len, List.length_map, hje]
    rw [e2]
    refine W.leG (mp := [(4, 4), (6, 6)]) (bo := [90]) (st' := ⟨[(1, .sl (natRowsS ks) false), (4, .bp 4 0), (6, .bp 6 0), (21, .bool false)], [(4, [.rows 3 [[.int .i64 0, .str [], .nils]] none]), (6, [.rows 3 [(projT t ks).row] none])], [4, 6]⟩)
      (LeG.mq (.ci 4 (.cons 6 (b1 := .rows 3 [(projT t ks).row] none) rfl rfl (.rows _ _ _ ⟨⟨⟨.refl _, rfl⟩, ⟨.refl _, rfl⟩, ⟨Lent.whole rfl rfl hcl3 rfl (by first | exact .inl rfl | exact .inr rfl), rfl⟩, trivial⟩, trivial⟩) rfl .nil))) ?_
    (refine gGo ?_; intros)
    (refine gM ?_; conv => whnf)
    exact retH rfl (.refl _) rfl rfl rfl trivial
end Go.Sx.Sp
namespace Go.Sx.Sp
open Go Go.Sx Go.Proofs
attribute [local irreducible] GoodW
set_option maxHeartbeats 8000000 in
theorem can38_spec (t : Table) (o : OpK) (hn : t.cols.length ≤ 4294967295) (hk : o.ks.length ≤ 4294967295) : Spec Tryz.prog 60 [.agg t.row, .agg o.row] [] (.bool (canB t o)) [] := by
  have hcl := colRows_len t.cols
  cases o with
  | eq c s =>
    have hC : canB t (.eq c s) = (decide (c < t.cols.length) && decide (s.length ≤ 1024)) := rfl
    refine gEn env Tryz.func60 fun Γ hN hK hML => ?_
    refine gA ?_
    (refine gE env hN (by kernel_rfl) ?_; conv => whnf)
    (refine gGs ?_; intros)
    refine W.leG (mp := []) (bo := [2, 3]) (st' := ⟨[(2, .ro t.row 0), (3, .ro ([.int .i64 1, .int .i64 (c : Nat), .str s, .sl (natRowsS []) false]) 0), (4, .bool false)], [], []⟩)
      (LeG.mk' rfl rfl rfl ⟨⟨_, .bp 2 0 3 t.row none rfl rfl (by simp) (.inr rfl), rfl⟩, ⟨_, .bp 3 0 4 ([.int .i64 1, .int .i64 (c : Nat), .str s, .sl (natRowsS []) false]) none rfl rfl (by simp) (.inr rfl), rfl⟩, ⟨_, .refl _, rfl⟩, trivial⟩ .nil rfl rfl (by rw [hK]; rfl)) ?_
    by_cases h0 : c < t.cols.length
    · by_cases h1 : s.length ≤ 1024
      · rw [hC, decide_eq_true h0, decide_eq_true h1]
        (refine gGo ?_; intros)
        (refine gGr ?_; intros)
        exact ret0 rfl rfl rfl
      · rw [hC, decide_eq_true h0, decide_eq_false h1]
        (refine gGo ?_; intros)
        (refine gGr ?_; intros)
        exact ret0 rfl rfl rfl
    · rw [hC, decide_eq_false h0]
      (refine gGo ?_; intros)
      (refine gGr ?_; intros)
      exact ret0 rfl rfl rfl
  | full c =>
    have hC : canB t (.full c) = decide (c < t.cols.length) := rfl
    refine gEn env Tryz.func60 fun Γ hN hK hML => ?_
    refine gA ?_
    (refine gE env hN (by kernel_rfl) ?_; conv => whnf)
    (refine gGs ?_; intros)
    refine W.leG (mp := []) (bo := [2, 3]) (st' := ⟨[(2, .ro t.row 0), (3, .ro ([.int .i64 2, .int .i64 (c : Nat), .str [], .sl (natRowsS []) false]) 0), (4, .bool false)], [], []⟩)
      (LeG.mk' rfl rfl rfl ⟨⟨_, .bp 2 0 3 t.row none rfl rfl (by simp) (.inr rfl), rfl⟩, ⟨_, .bp 3 0 4 ([.int .i64 2, .int .i64 (c : Nat), .str [], .sl (natRowsS []) false]) none rfl rfl (by simp) (.inr rfl), rfl⟩, ⟨_, .refl _, rfl⟩, trivial⟩ .nil rfl rfl (by rw [hK]; rfl)) ?_
    by_cases h0 : c < t.cols.length
    · rw [hC, decide_eq_true h0]
      (refine gGo ?_; intros)
      (refine gGr ?_; intros)
      exact ret0 rfl rfl rfl
    · rw [hC, decide_eq_false h0]
      (refine gGo ?_; intros)
      (refine gGr ?_; intros)
      exact ret0 rfl rfl rfl
  | sort c =>
    have hC : canB t (.sort c) = decide (c < t.cols.length) := rfl
    refine gEn env Tryz.func60 fun Γ hN hK hML => ?_
    refine gA ?_
    (refine gE env hN (by kernel_rfl) ?_; conv => whnf)
    (refine gGs ?_; intros)
    refine W.leG (mp := []) (bo := [2, 3]) (st' := ⟨[(2, .ro t.row 0), (3, .ro ([.int .i64 5, .int .i64 (c : Nat), .str [], .sl (natRowsS []) false]) 0), (4, .bool false)], [], []⟩)
      (LeG.mk' rfl rfl rfl ⟨⟨_, .bp 2 0 3 t.row none rfl rfl (by simp) (.inr rfl), rfl⟩, ⟨_, .bp 3 0 4 ([.int .i64 5, .int .i64 (c : Nat), .str [], .sl (natRowsS []) false]) none rfl rfl (by simp) (.inr rfl), rfl⟩, ⟨_, .refl _, rfl⟩, trivial⟩ .nil rfl rfl (by rw [hK]; rfl)) ?_
    by_cases h0 : c < t.cols.length
    · rw [hC, decide_eq_true h0]
      (refine gGo ?_; intros)
      (refine gGr ?_; intros)
      exact ret0 rfl rfl rfl
    · rw [hC, decide_eq_false h0]
      (refine gGo ?_; intros)
      (refine gGr ?_; intros)
      exact ret0 rfl rfl rfl
  | dist =>
    have hC : canB t .dist = true := rfl
    refine gEn env Tryz.func60 fun Γ hN hK hML => ?_
    refine gA ?_
    (refine gE env hN (by kernel_rfl) ?_; conv => whnf)
    (refine gGs ?_; intros)
    refine W.leG (mp := []) (bo := [2, 3]) (st' := ⟨[(2, .ro t.row 0), (3, .ro ([.int .i64 4, .int .i64 0, .str [], .sl (natRowsS []) false]) 0), (4, .bool false)], [], []⟩)
      (LeG.mk' rfl rfl rfl ⟨⟨_, .bp 2 0 3 t.row none rfl rfl (by simp) (.inr rfl), rfl⟩, ⟨_, .bp 3 0 4 ([.int .i64 4, .int .i64 0, .str [], .sl (natRowsS []) false]) none rfl rfl (by simp) (.inr rfl), rfl⟩, ⟨_, .refl _, rfl⟩, trivial⟩ .nil rfl rfl (by rw [hK]; rfl)) ?_
    rw [hC]
    by_cases h0 : 0 < t.cols.length
    · (refine gGo ?_; intros)
      (refine gGr ?_; intros)
      exact ret0 rfl rfl rfl
    · (refine gGo ?_; intros)
      (refine gGr ?_; intros)
      exact ret0 rfl rfl rfl
  | proj ks =>
    have hC : canB t (.proj ks) = ((ks.all fun k => decide (k < t.cols.length)) && decide (ks.length ≤ 64)) := rfl
    have hr := natRowsS_len ks
    have hk : ks.length ≤ 4294967295 := hk
    refine gEn env Tryz.func60 fun Γ hN hK hML => ?_
    refine gA ?_
    (refine gE env hN (by kernel_rfl) ?_; conv => whnf)
    (refine gGs ?_; intros)
    refine W.leG (mp := []) (bo := [2, 3]) (st' := ⟨[(2, .ro t.row 0), (3, .ro ([.int .i64 3, .int .i64 0, .str [], .sl (natRowsS ks) false]) 0), (4, .bool false)], [], []⟩)
      (LeG.mk' rfl rfl rfl ⟨⟨_, .bp 2 0 3 t.row none rfl rfl (by simp) (.inr rfl), rfl⟩, ⟨_, .bp 3 0 4 ([.int .i64 3, .int .i64 0, .str [], .sl (natRowsS ks) false]) none rfl rfl (by simp) (.inr rfl), rfl⟩, ⟨_, .refl _, rfl⟩, trivial⟩ .nil rfl rfl (by rw [hK]; rfl)) ?_
    refine W.cut (fun s => s = ⟨[(2, .ro t.row 0), (3, .ro ([.int .i64 3, .int .i64 0, .str [], .sl (natRowsS ks) false]) 0), (4, .bool false), (5, .bool (decide (0 < t.cols.length)))], [], []⟩) ?_ ?_
    · by_cases h0 : 0 < t.cols.length
      · rw [decide_eq_true h0]
        (refine gGo ?_; intros)
        exact ⟨_, rfl, .le (mp := []) (bo := []) (LeG.mq .nil)⟩
      · rw [decide_eq_false h0]
        (refine gGo ?_; intros)
        exact ⟨_, rfl, .le (mp := []) (bo := []) (LeG.mq .nil)⟩
    rintro s rfl
    (refine gGo ?_; intros)
    refine W.loopG (fun m st => ∃ j : Nat, j ≤ ks.length ∧ (∀ k ∈ ks.take j, k < t.cols.length) ∧ m = ks.length - j ∧ st = ⟨[(2, .ro t.row 0), (3, .ro ([.int .i64 3, .int .i64 0, .str [], .sl (natRowsS ks) false]) 0), (4, .bool false), (54, .sl (natRowsS ks) false), (55, .int .i64 (natRowsS ks).length), (56, .int .i64 (j : Nat))], [], []⟩)
      ks.length _ ⟨0, by omega, by simp, by omega, rfl⟩ ⟨[], [], [], .mq .nil⟩ ?_
    rintro m st ⟨j, hj, hall, rfl, rfl⟩
    (refine gGo ?_; intros)
    refine boolRes_split (fun hb => ?_) (fun hb => ?_) <;> conv => whnf
    · have hlt : j < ks.length := by omega
      have hg := natRowsS_get hlt
      have hsn : ks.take (j + 1) = ks.take j ++ [ks[j]] := List.take_succ_eq_append_getElem hlt
      have hbad : ¬ ks[j] < t.cols.length → canB t (.proj ks) = false := fun h => by
        rw [hC]
        have : (ks.all fun k => decide (k < t.cols.length)) = false := List.all_eq_false.2 ⟨_, List.getElem_mem hlt, by simpa using h⟩
        rw [this]; rfl
      generalize ks[j] = k at *
      (refine gGo ?_; intros)
      refine rowAt_of (by simpa using hg) ?_
      conv => whnf
      by_cases h2 : k < t.cols.length
      · (refine gGo ?_; intros)
        refine ⟨_, _, ?_, ⟨j + 1, by omega, by
          rw [hsn]
          intro d hd
          rcases List.mem_append.1 hd with h | h
          · exact hall d h
          · simp at h; rw [h]; exact h2, rfl, rfl⟩, ⟨[], [], [], .mq .nil⟩⟩
        omega
      · rw [hbad h2]
        (refine gGo ?_; intros)
        (refine gGr ?_; intros)
        exact ret0 rfl rfl rfl
    · have hje : j = ks.length := by omega
      rw [hje, List.take_length] at hall
      have hA : (ks.all fun k => decide (k < t.cols.length)) = true := List.all_eq_true.2 fun k hk => decide_eq_true (hall k hk)
      rw [hC, hA]
      by_cases h3 : ks.length ≤ 64
      · rw [decide_eq_true h3]
        (refine gGo ?_; intros)
        (refine gGr ?_; intros)
        exact ret0 rfl rfl rfl
      · rw [decide_eq_false h3]
        (refine gGo ?_; intros)
        (refine gGr ?_; intros)
        exact ret0 rfl rfl rfl
end Go.Sx.Sp
namespace Go.Sx.Sp
open Go Go.Sx Go.Proofs
attribute [local irreducible] GoodW
set_option maxHeartbeats 8000000 in
theorem rowsEq_spec (t : Table) (c : Nat) (s : Str) (hv : validB t = true) (hc : c < t.cols.length) : Spec Tryz.prog 86 [.agg t.row, .agg [.int .i64 1, .int .i64 (c : Nat), .str s, .sl (natRowsS []) false]] [] (.sl (natRowsS (opRows t (.eq c s) (rowsN t))) false) [] := by
  have hgc := colRows_get hc
  have hlc := valid_cells hv _ (List.getElem_mem hc)
  have eA : colK t c = t.cols[c].cells := by simp [colK, hc]
  generalize t.cols[c] = cc at *
  have sp2 := rows3_spec t
  have hcl := colRows_len t.cols
  have hvn := validB_n hv
  have hcc : ∀ (j : Nat) (hj : j < t.cols.length), (t.cols[j]).cells.length = rowsN t := fun j hj => valid_cells hv _ (List.getElem_mem hj)
  refine gEn env Tryz.func86 fun Γ hN hK hML => ?_
  refine gA ?_
  (refine gE env hN (by kernel_rfl) ?_; conv => whnf)
  (refine gGs ?_; intros)
  refine W.leG (mp := []) (bo := [2, 3]) (st' := ⟨[(2, .ro t.row 0), (3, .ro ([.int .i64 1, .int .i64 (c : Nat), .str s, .sl (natRowsS []) false]) 0)], [], []⟩)
    (LeG.mk' rfl rfl rfl ⟨⟨_, .bp 2 0 3 t.row none rfl rfl (by simp) (.inr rfl), rfl⟩, ⟨_, .bp 3 0 4 ([.int .i64 1, .int .i64 (c : Nat), .str s, .sl (natRowsS []) false]) none rfl rfl (by simp) (.inr rfl), rfl⟩, trivial⟩ .nil rfl rfl (by rw [hK]; rfl)) ?_
  (refine gGo ?_; intros)
  (refine gPC (sp2) ?_; conv => whnf)
  (refine gGo ?_; intros)
  refine W.loopG (fun m st => ∃ r : Nat, r ≤ rowsN t ∧ m = rowsN t - r ∧ st = ⟨[(2, .ro t.row 0), (3, .ro ([.int .i64 1, .int .i64 (c : Nat), .str s, .sl (natRowsS []) false]) 0), (5, .sl (natRowsS (opRows t (OpK.eq c s) r)) false), (14, .int .i64 (rowsN t : Nat)), (15, .int .i64 (r : Nat))], [], []⟩)
    (rowsN t) _ ⟨0, by omega, by omega, rfl⟩ ⟨[], [], [], LeG.mk' rfl rfl rfl ⟨⟨_, .refl _, rfl⟩, ⟨_, .refl _, rfl⟩, ⟨_, .norm _, rfl⟩, ⟨_, .refl _, rfl⟩, ⟨_, .refl _, rfl⟩, trivial⟩ .nil rfl rfl (by rw [hK]; rfl)⟩ ?_
  rintro m st ⟨r, hr, rfl, rfl⟩
  (refine gGo ?_; intros)
  refine boolRes_split (fun hb => ?_) (fun hb => ?_) <;> conv => whnf
  · have hlt : r < rowsN t := by omega
    have hsn : opRows t (OpK.eq c s) (r + 1) = opIns t (OpK.eq c s) (opRows t (OpK.eq c s) r) r := rfl
    have hol := opRows_len t (OpK.eq c s) r
    have hmem : ∀ i ∈ opRows t (OpK.eq c s) r, i < r := fun i hi => opRows_lt hi
    generalize opRows t (OpK.eq c s) r = out at *
    have horl := natRowsS_len out
    refine gA ?_
    refine gC rfl ?_
    refine gF ?_
    conv => whnf
    refine gA ?_
    refine gB ?_
    refine gA ?_
    (refine gE env hN (by kernel_rfl) ?_; conv => whnf)
    (refine gGs ?_; intros)
    refine gA ?_
    (refine gE env hN (by kernel_rfl) ?_; conv => whnf)
    (refine gGs ?_; intros)
    refine W.cut (fun z => z = ⟨[(2, .ro t.row 0), (3, .ro ([.int .i64 1, .int .i64 (c : Nat), .str s, .sl (natRowsS []) false]) 0), (5, .sl (natRowsS (out)) false), (14, .int .i64 (rowsN t : Nat)), (15, .int .i64 (r : Nat)), (6, .int .i64 (r : Nat)), (7, .int .i64 (opAt t (OpK.eq c s) out r : Nat)), (8, .bool (opKeep t (OpK.eq c s) out r))], [], []⟩) ?_ ?_
    · skip
      have hg := cellRows_get (l := cc.cells) (i := r) (by omega)
      have hk : opKeep t (.eq c s) out r = (!(cc.cells[r]'(by omega)).null && decide ((cc.cells[r]'(by omega)).text = s)) := by
        show (!(cellI (colK t c) r).null && decide ((cellI (colK t c) r).text = s)) = _
        rw [eA]
        have : cellI cc.cells r = cc.cells[r]'(by omega) := by simp [cellI, show r < cc.cells.length by omega]
        rw [this]
      have hat : opAt t (.eq c s) out r = out.length := rfl
      rw [hk, hat, ← horl]
      generalize cc.cells[r]'(by omega) = x at *
      (refine gGo ?_; intros)
      refine rowAt_of (by simpa using hgc) ?_
      conv => whnf
      (refine gGo ?_; intros)
      refine rowAt_of (by simpa using hg) ?_
      conv => whnf
      (refine gGo ?_; intros)
      cases hnull : x.null with
      | true =>
        conv => whnf
        (refine gGo ?_; intros)
        exact ⟨_, rfl, .le (mp := []) (bo := []) (LeG.mq .nil)⟩
      | false =>
        conv => whnf
        (refine gGo ?_; intros)
        by_cases he : x.text = s
        · rw [decide_eq_true he]
          refine boolRes_true he ?_
          conv => whnf
          (refine gGo ?_; intros)
          exact ⟨_, rfl, .le (mp := []) (bo := []) (LeG.mq .nil)⟩
        · rw [decide_eq_false he]
          refine boolRes_false he ?_
          conv => whnf
          (refine gGo ?_; intros)
          exact ⟨_, rfl, .le (mp := []) (bo := []) (LeG.mq .nil)⟩
    · rintro z rfl
      have hpl : opAt t (OpK.eq c s) out r ≤ out.length := opAt_le _ _ _ _
      have hins : opIns t (OpK.eq c s) out r = if opKeep t (OpK.eq c s) out r = true then out.take (opAt t (OpK.eq c s) out r) ++ r :: out.drop (opAt t (OpK.eq c s) out r) else out := rfl
      rw [hins] at hsn
      clear hins
      generalize opAt t (OpK.eq c s) out r = pl at *
      cases hkeep : opKeep t (OpK.eq c s) out r with
      | false =>
        rw [hkeep, if_neg (by decide)] at hsn
        (refine gGo ?_; intros)
        refine ⟨_, _, ?_, ⟨r + 1, by omega, rfl, rfl⟩, [], [], [], LeG.mk' rfl rfl rfl (by rw [hsn]; exact (by repeat' (first | exact trivial | exact ⟨_, .refl _, rfl⟩ | apply And.intro))) .nil rfl rfl (by rw [hK]; rfl)⟩
        omega
      | true =>
        rw [hkeep, if_pos rfl] at hsn
        have hs1 : ∀ p : Nat, List.drop (Int.toNat 0) (List.take ((p : Int)).toNat (natRowsS out)) = natRowsS (out.take p) := fun p => by
          rw [Int.toNat_natCast]
          unfold natRowsS natL intRows
          rw [← List.map_take, ← List.map_take]; rfl
        have hs2 : ∀ p : Nat, List.drop ((p : Int)).toNat (List.take (((natRowsS out).length : Nat) : Int).toNat (natRowsS out)) = natRowsS (out.drop p) := fun p => by
          rw [Int.toNat_natCast, Int.toNat_natCast, List.take_length]
          unfold natRowsS natL intRows
          rw [← List.map_drop, ← List.map_drop]
        have hsz : ∀ l : List Nat, rowsSz (natRowsS l) 1 := fun l => by
          unfold rowsSz
          intro r hr
          obtain ⟨a, _, rfl⟩ := List.mem_map.1 hr
          rfl
        have hAl : (out.take pl).length = pl := by rw [List.length_take]; omega
        have hBl : (out.drop pl).length = out.length - pl := by rw [List.length_drop]
        (refine gGo ?_; intros)
        refine And.intro (hsz _) ?_
        rw [hs1]
        generalize out.take pl = A at *
        generalize hB : out.drop pl = B at *
        have hA2 := natRowsS_len A
        have hB2 := natRowsS_len B
        conv => whnf
        (refine gGo ?_; intros)
        refine ⟨hsz _, fitN (n := (natRowsS A).length) (b := 8) (by omega) (by omega), ?_⟩
        refine Or.inl ?_
        conv => whnf
        (refine gGo ?_; intros)
        refine ⟨⟨rowsSz_cons rfl rowsSz_nil, rfl⟩, fitN (n := (natRowsS A).length + 1) (b := 8) (by omega) (by omega), .inl ⟨rfl, rfl, ?_⟩⟩
        conv => whnf
        (refine gGo ?_; intros)
        refine And.intro (hsz _) ?_
        rw [hs2, hB]
        conv => whnf
        (refine gGo ?_; intros)
        refine ⟨⟨hsz _, by simp⟩, fitN (n := (natRowsS A).length + 1 + (natRowsS B).length) (b := 8) (by omega) (by omega), .inl ⟨rfl, rfl, ?_⟩⟩
        conv => whnf
        (refine gGo ?_; intros)
        have hrn : ((natRowsS A ++ [[.int .i64 (r : Nat)]]) ++ natRowsS B) = natRowsS (A ++ r :: B) := by simp [natRowsS, natL, intRows]
        refine ⟨_, _, ?_, ⟨r + 1, by omega, rfl, rfl⟩, [], [108, 110], [], LeG.mk' rfl rfl rfl (by repeat' (first | exact trivial | exact ⟨_, .refl _, rfl⟩ | (rw [hsn, ← hrn]; exact ⟨_, Lent.whole rfl rfl (by simp; omega) rfl (by first | exact .inl rfl | exact .inr rfl), rfl⟩) | apply And.intro)) .nil rfl rfl (by rw [hK]; rfl)⟩
        omega
  · have hre : r = rowsN t := by omega
    rw [hre]
    (refine gGr ?_; intros)
    exact ret0 rfl rfl rfl
set_option maxHeartbeats 8000000 in
theorem rowsFull_spec (t : Table) (c : Nat) (hv : validB t = true) (hc : c < t.cols.length) : Spec Tryz.prog 86 [.agg t.row, .agg [.int .i64 2, .int .i64 (c : Nat), .str [], .sl (natRowsS []) false]] [] (.sl (natRowsS (opRows t (.full c) (rowsN t))) false) [] := by
  have hgc := colRows_get hc
  have hlc := valid_cells hv _ (List.getElem_mem hc)
  have eA : colK t c = t.cols[c].cells := by simp [colK, hc]
  generalize t.cols[c] = cc at *
  have sp2 := rows3_spec t
  have hcl := colRows_len t.cols
  have hvn := validB_n hv
  have hcc : ∀ (j : Nat) (hj : j < t.cols.length), (t.cols[j]).cells.length = rowsN t := fun j hj => valid_cells hv _ (List.getElem_mem hj)
  refine gEn env Tryz.func86 fun Γ hN hK hML => ?_
  refine gA ?_
  (refine gE env hN (by kernel_rfl) ?_; conv => whnf)
  (refine gGs ?_; intros)
  refine W.leG (mp := []) (bo := [2, 3]) (st' := ⟨[(2, .ro t.row 0), (3, .ro ([.int .i64 2, .int .i64 (c : Nat), .str [], .sl (natRowsS []) false]) 0)], [], []⟩)
    (LeG.mk' rfl rfl rfl ⟨⟨_, .bp 2 0 3 t.row none rfl rfl (by simp) (.inr rfl), rfl⟩, ⟨_, .bp 3 0 4 ([.int .i64 2, .int .i64 (c : Nat), .str [], .sl (natRowsS []) false]) none rfl rfl (by simp) (.inr rfl), rfl⟩, trivial⟩ .nil rfl rfl (by rw [hK]; rfl)) ?_
  (refine gGo ?_; intros)
  (refine gPC (sp2) ?_; conv => whnf)
  (refine gGo ?_; intros)
  refine W.loopG (fun m st => ∃ r : Nat, r ≤ rowsN t ∧ m = rowsN t - r ∧ st = ⟨[(2, .ro t.row 0), (3, .ro ([.int .i64 2, .int .i64 (c : Nat), .str [], .sl (natRowsS []) false]) 0), (5, .sl (natRowsS (opRows t (OpK.full c) r)) false), (14, .int .i64 (rowsN t : Nat)), (15, .int .i64 (r : Nat))], [], []⟩)
    (rowsN t) _ ⟨0, by omega, by omega, rfl⟩ ⟨[], [], [], LeG.mk' rfl rfl rfl ⟨⟨_, .refl _, rfl⟩, ⟨_, .refl _, rfl⟩, ⟨_, .norm _, rfl⟩, ⟨_, .refl _, rfl⟩, ⟨_, .refl _, rfl⟩, trivial⟩ .nil rfl rfl (by rw [hK]; rfl)⟩ ?_
  rintro m st ⟨r, hr, rfl, rfl⟩
  (refine gGo ?_; intros)
  refine boolRes_split (fun hb => ?_) (fun hb => ?_) <;> conv => whnf
  · have hlt : r < rowsN t := by omega
    have hsn : opRows t (OpK.full c) (r + 1) = opIns t (OpK.full c) (opRows t (OpK.full c) r) r := rfl
    have hol := opRows_len t (OpK.full c) r
    have hmem : ∀ i ∈ opRows t (OpK.full c) r, i < r := fun i hi => opRows_lt hi
    generalize opRows t (OpK.full c) r = out at *
    have horl := natRowsS_len out
    refine gA ?_
    refine gC rfl ?_
    refine gF ?_
    conv => whnf
    refine gA ?_
    refine gB ?_
    refine gA ?_
    (refine gE env hN (by kernel_rfl) ?_; conv => whnf)
    (refine gGs ?_; intros)
    refine gA ?_
    (refine gE env hN (by kernel_rfl) ?_; conv => whnf)
    (refine gGs ?_; intros)
    refine W.cut (fun z => z = ⟨[(2, .ro t.row 0), (3, .ro ([.int .i64 2, .int .i64 (c : Nat), .str [], .sl (natRowsS []) false]) 0), (5, .sl (natRowsS (out)) false), (14, .int .i64 (rowsN t : Nat)), (15, .int .i64 (r : Nat)), (6, .int .i64 (r : Nat)), (7, .int .i64 (opAt t (OpK.full c) out r : Nat)), (8, .bool (opKeep t (OpK.full c) out r))], [], []⟩) ?_ ?_
    · skip
      have hg := cellRows_get (l := cc.cells) (i := r) (by omega)
      have hk : opKeep t (.full c) out r = !(cc.cells[r]'(by omega)).null := by
        show (!(cellI (colK t c) r).null) = _
        rw [eA]
        have : cellI cc.cells r = cc.cells[r]'(by omega) := by simp [cellI, show r < cc.cells.length by omega]
        rw [this]
      have hat : opAt t (.full c) out r = out.length := rfl
      rw [hk, hat, ← horl]
      generalize cc.cells[r]'(by omega) = x at *
      (refine gGo ?_; intros)
      refine rowAt_of (by simpa using hgc) ?_
      conv => whnf
      (refine gGo ?_; intros)
      refine rowAt_of (by simpa using hg) ?_
      conv => whnf
      (refine gGo ?_; intros)
      exact ⟨_, rfl, .le (mp := []) (bo := []) (LeG.mq .nil)⟩
    · rintro z rfl
      have hpl : opAt t (OpK.full c) out r ≤ out.length := opAt_le _ _ _ _
      have hins : opIns t (OpK.full c) out r = if opKeep t (OpK.full c) out r = true then out.take (opAt t (OpK.full c) out r) ++ r :: out.drop (opAt t (OpK.full c) out r) else out := rfl
      rw [hins] at hsn
      clear hins
      generalize opAt t (OpK.full c) out r = pl at *
      cases hkeep : opKeep t (OpK.full c) out r with
      | false =>
        rw [hkeep, if_neg (by decide)] at hsn
        (refine gGo ?_; intros)
        refine ⟨_, _, ?_, ⟨r + 1, by omega, rfl, rfl⟩, [], [], [], LeG.mk' rfl rfl rfl (by rw [hsn]; exact (by repeat' (first | exact trivial | exact ⟨_, .refl _, rfl⟩ | apply And.intro))) .nil rfl rfl (by rw [hK]; rfl)⟩
        omega
      | true =>
        rw [hkeep, if_pos rfl] at hsn
        have hs1 : ∀ p : Nat, List.drop (Int.toNat 0) (List.take ((p : Int)).toNat (natRowsS out)) = natRowsS (out.take p) := fun p => by
          rw [Int.toNat_natCast]
          unfold natRowsS natL intRows
          rw [← List.map_take, ← List.map_take]; rfl
        have hs2 : ∀ p : Nat, List.drop ((p : Int)).toNat (List.take (((natRowsS out).length : Nat) : Int).toNat (natRowsS out)) = natRowsS (out.drop p) := fun p => by
          rw [Int.toNat_natCast, Int.toNat_natCast, List.take_length]
          unfold natRowsS natL intRows
          rw [← List.map_drop, ← List.map_drop]
        have hsz : ∀ l : List Nat, rowsSz (natRowsS l) 1 := fun l => by
          unfold rowsSz
          intro r hr
          obtain ⟨a, _, rfl⟩ := List.mem_map.1 hr
          rfl
        have hAl : (out.take pl).length = pl := by rw [List.length_take]; omega
        have hBl : (out.drop pl).length = out.length - pl := by rw [List.length_drop]
        (refine gGo ?_; intros)
        refine And.intro (hsz _) ?_
        rw [hs1]
        generalize out.take pl = A at *
        generalize hB : out.drop pl = B at *
        have hA2 := natRowsS_len A
        have hB2 := natRowsS_len B
        conv => whnf
        (refine gGo ?_; intros)
        refine ⟨hsz _, fitN (n := (natRowsS A).length) (b := 8) (by omega) (by omega), ?_⟩
        refine Or.inl ?_
        conv => whnf
        (refine gGo ?_; intros)
        refine ⟨⟨rowsSz_cons rfl rowsSz_nil, rfl⟩, fitN (n := (natRowsS A).length + 1) (b := 8) (by omega) (by omega), .inl ⟨rfl, rfl, ?_⟩⟩
        conv => whnf
        (refine gGo ?_; intros)
        refine And.intro (hsz _) ?_
        rw [hs2, hB]
        conv => whnf
        (refine gGo ?_; intros)
        refine ⟨⟨hsz _, by simp⟩, fitN (n := (natRowsS A).length + 1 + (natRowsS B).length) (b := 8) (by omega) (by omega), .inl ⟨rfl, rfl, ?_⟩⟩
        conv => whnf
        (refine gGo ?_; intros)
        have hrn : ((natRowsS A ++ [[.int .i64 (r : Nat)]]) ++ natRowsS B) = natRowsS (A ++ r :: B) := by simp [natRowsS, natL, intRows]
        refine ⟨_, _, ?_, ⟨r + 1, by omega, rfl, rfl⟩, [], [108, 110], [], LeG.mk' rfl rfl rfl (by repeat' (first | exact trivial | exact ⟨_, .refl _, rfl⟩ | (rw [hsn, ← hrn]; exact ⟨_, Lent.whole rfl rfl (by simp; omega) rfl (by first | exact .inl rfl | exact .inr rfl), rfl⟩) | apply And.intro)) .nil rfl rfl (by rw [hK]; rfl)⟩
        omega
  · have hre : r = rowsN t := by omega
    rw [hre]
    (refine gGr ?_; intros)
    exact ret0 rfl rfl rfl
set_option maxHeartbeats 8000000 in
theorem rowsDist_spec (t : Table) (hv : validB t = true) : Spec Tryz.prog 86 [.agg t.row, .agg [.int .i64 4, .int .i64 0, .str [], .sl (natRowsS []) false]] [] (.sl (natRowsS (opRows t .dist (rowsN t))) false) [] := by
  have few : t.cols.length ≤ 64 := by simp only [validB, headB, Bool.and_eq_true, decide_eq_true_eq] at hv; omega
  have hcm : ∀ c ∈ t.cols, c.cells.length = rowsN t := fun c h => valid_cells hv _ h
  have sp2 := rows3_spec t
  have hcl := colRows_len t.cols
  have hvn := validB_n hv
  have hcc : ∀ (j : Nat) (hj : j < t.cols.length), (t.cols[j]).cells.length = rowsN t := fun j hj => valid_cells hv _ (List.getElem_mem hj)
  refine gEn env Tryz.func86 fun Γ hN hK hML => ?_
  refine gA ?_
  (refine gE env hN (by kernel_rfl) ?_; conv => whnf)
  (refine gGs ?_; intros)
  refine W.leG (mp := []) (bo := [2, 3]) (st' := ⟨[(2, .ro t.row 0), (3, .ro ([.int .i64 4, .int .i64 0, .str [], .sl (natRowsS []) false]) 0)], [], []⟩)
    (LeG.mk' rfl rfl rfl ⟨⟨_, .bp 2 0 3 t.row none rfl rfl (by simp) (.inr rfl), rfl⟩, ⟨_, .bp 3 0 4 ([.int .i64 4, .int .i64 0, .str [], .sl (natRowsS []) false]) none rfl rfl (by simp) (.inr rfl), rfl⟩, trivial⟩ .nil rfl rfl (by rw [hK]; rfl)) ?_
  (refine gGo ?_; intros)
  (refine gPC (sp2) ?_; conv => whnf)
  (refine gGo ?_; intros)
  refine W.loopG (fun m st => ∃ r : Nat, r ≤ rowsN t ∧ m = rowsN t - r ∧ st = ⟨[(2, .ro t.row 0), (3, .ro ([.int .i64 4, .int .i64 0, .str [], .sl (natRowsS []) false]) 0), (5, .sl (natRowsS (opRows t (OpK.dist) r)) false), (14, .int .i64 (rowsN t : Nat)), (15, .int .i64 (r : Nat))], [], []⟩)
    (rowsN t) _ ⟨0, by omega, by omega, rfl⟩ ⟨[], [], [], LeG.mk' rfl rfl rfl ⟨⟨_, .refl _, rfl⟩, ⟨_, .refl _, rfl⟩, ⟨_, .norm _, rfl⟩, ⟨_, .refl _, rfl⟩, ⟨_, .refl _, rfl⟩, trivial⟩ .nil rfl rfl (by rw [hK]; rfl)⟩ ?_
  rintro m st ⟨r, hr, rfl, rfl⟩
  (refine gGo ?_; intros)
  refine boolRes_split (fun hb => ?_) (fun hb => ?_) <;> conv => whnf
  · have hlt : r < rowsN t := by omega
    have hsn : opRows t (OpK.dist) (r + 1) = opIns t (OpK.dist) (opRows t (OpK.dist) r) r := rfl
    have hol := opRows_len t (OpK.dist) r
    have hmem : ∀ i ∈ opRows t (OpK.dist) r, i < r := fun i hi => opRows_lt hi
    generalize opRows t (OpK.dist) r = out at *
    have horl := natRowsS_len out
    refine gA ?_
    refine gC rfl ?_
    refine gF ?_
    conv => whnf
    refine gA ?_
    refine gB ?_
    refine gA ?_
    (refine gE env hN (by kernel_rfl) ?_; conv => whnf)
    (refine gGs ?_; intros)
    refine gA ?_
    (refine gE env hN (by kernel_rfl) ?_; conv => whnf)
    (refine gGs ?_; intros)
    refine W.cut (fun z => z = ⟨[(2, .ro t.row 0), (3, .ro ([.int .i64 4, .int .i64 0, .str [], .sl (natRowsS []) false]) 0), (5, .sl (natRowsS (out)) false), (14, .int .i64 (rowsN t : Nat)), (15, .int .i64 (r : Nat)), (6, .int .i64 (r : Nat)), (7, .int .i64 (opAt t (OpK.dist) out r : Nat)), (8, .bool (opKeep t (OpK.dist) out r))], [], []⟩) ?_ ?_
    · skip
      have hk : opKeep t .dist out r = out.all fun x => !eqRowB t x r := rfl
      have hat : opAt t .dist out r = out.length := rfl
      rw [hk, hat]
      (refine gGo ?_; intros)
      refine W.loopG (fun m st => ∃ j : Nat, j ≤ out.length ∧ m = out.length - j ∧ st = ⟨[(2, .ro t.row 0), (3, .ro ([.int .i64 4, .int .i64 0, .str [], .sl (natRowsS []) false]) 0), (5, .sl (natRowsS (out)) false), (14, .int .i64 (rowsN t : Nat)), (15, .int .i64 (r : Nat)), (6, .int .i64 (r : Nat)), (7, .int .i64 (out.length : Nat)), (8, .bool ((out.take j).all fun x => !eqRowB t x r)), (60, .sl (natRowsS out) false), (61, .int .i64 (natRowsS out).length), (62, .int .i64 (j : Nat))], [], []⟩)
        out.length _ ⟨0, by omega, by omega, rfl⟩ ⟨[], [], [], LeG.mk' rfl rfl rfl (by rw [horl]; exact (by repeat' (first | exact trivial | exact ⟨_, .refl _, rfl⟩ | apply And.intro))) .nil rfl rfl (by rw [hK]; rfl)⟩ ?_
      rintro m st ⟨j, hj, rfl, rfl⟩
      (refine gGo ?_; intros)
      refine boolRes_split (fun hb => ?_) (fun hb => ?_) <;> conv => whnf
      · have hjl : j < out.length := by omega
        have hg := natRowsS_get hjl
        have hx := hmem _ (List.getElem_mem hjl)
        have hsn2 : ((out.take (j + 1)).all fun x => !eqRowB t x r) = (((out.take j).all fun x => !eqRowB t x r) && !eqRowB t out[j] r) := by
          rw [List.take_succ_eq_append_getElem hjl, List.all_append]; simp
        generalize out[j] = x at *
        have spE := equal38_spec t x r (fun c h => by have := hcm c h; omega) (fun c h => by have := hcm c h; omega) (by omega)
        (refine gGo ?_; intros)
        refine rowAt_of (by simpa using hg) ?_
        conv => whnf
        (refine gGo ?_; intros)
        cases hall : (out.take j).all fun x => !eqRowB t x r with
        | false =>
          rw [hall] at hsn2
          conv => whnf
          (refine gGo ?_; intros)
          refine ⟨_, _, ?_, ⟨j + 1, by omega, rfl, rfl⟩, [], [], [], LeG.mk' rfl rfl rfl (by rw [hsn2]; exact (by repeat' (first | exact trivial | exact ⟨_, .refl _, rfl⟩ | apply And.intro))) .nil rfl rfl (by rw [hK]; rfl)⟩
          omega
        | true =>
          rw [hall] at hsn2
          conv => whnf
          (refine gGo ?_; intros)
          (refine gPC (spE) ?_; conv => whnf)
          (refine gGo ?_; intros)
          refine ⟨_, _, ?_, ⟨j + 1, by omega, rfl, rfl⟩, [], [], [], LeG.mk' rfl rfl rfl (by rw [hsn2]; exact (by repeat' (first | exact trivial | exact ⟨_, .refl _, rfl⟩ | apply And.intro))) .nil rfl rfl (by rw [hK]; rfl)⟩
          omega
      · have hje : j = out.length := by omega
        rw [hje, List.take_length]
        (refine gGo ?_; intros)
        exact ⟨_, rfl, .le (mp := []) (bo := []) (LeG.mq .nil)⟩
    · rintro z rfl
      have hpl : opAt t (OpK.dist) out r ≤ out.length := opAt_le _ _ _ _
      have hins : opIns t (OpK.dist) out r = if opKeep t (OpK.dist) out r = true then out.take (opAt t (OpK.dist) out r) ++ r :: out.drop (opAt t (OpK.dist) out r) else out := rfl
      rw [hins] at hsn
      clear hins
      generalize opAt t (OpK.dist) out r = pl at *
      cases hkeep : opKeep t (OpK.dist) out r with
      | false =>
        rw [hkeep, if_neg (by decide)] at hsn
        (refine gGo ?_; intros)
        refine ⟨_, _, ?_, ⟨r + 1, by omega, rfl, rfl⟩, [], [], [], LeG.mk' rfl rfl rfl (by rw [hsn]; exact (by repeat' (first | exact trivial | exact ⟨_, .refl _, rfl⟩ | apply And.intro))) .nil rfl rfl (by rw [hK]; rfl)⟩
        omega
      | true =>
        rw [hkeep, if_pos rfl] at hsn
        have hs1 : ∀ p : Nat, List.drop (Int.toNat 0) (List.take ((p : Int)).toNat (natRowsS out)) = natRowsS (out.take p) := fun p => by
          rw [Int.toNat_natCast]
          unfold natRowsS natL intRows
          rw [← List.map_take, ← List.map_take]; rfl
        have hs2 : ∀ p : Nat, List.drop ((p : Int)).toNat (List.take (((natRowsS out).length : Nat) : Int).toNat (natRowsS out)) = natRowsS (out.drop p) := fun p => by
          rw [Int.toNat_natCast, Int.toNat_natCast, List.take_length]
          unfold natRowsS natL intRows
          rw [← List.map_drop, ← List.map_drop]
        have hsz : ∀ l : List Nat, rowsSz (natRowsS l) 1 := fun l => by
          unfold rowsSz
          intro r hr
          obtain ⟨a, _, rfl⟩ := List.mem_map.1 hr
          rfl
        have hAl : (out.take pl).length = pl := by rw [List.length_take]; omega
        have hBl : (out.drop pl).length = out.length - pl := by rw [List.length_drop]
        (refine gGo ?_; intros)
        refine And.intro (hsz _) ?_
        rw [hs1]
        generalize out.take pl = A at *
        generalize hB : out.drop pl = B at *
        have hA2 := natRowsS_len A
        have hB2 := natRowsS_len B
        conv => whnf
        (refine gGo ?_; intros)
        refine ⟨hsz _, fitN (n := (natRowsS A).length) (b := 8) (by omega) (by omega), ?_⟩
        refine Or.inl ?_
        conv => whnf
        (refine gGo ?_; intros)
        refine ⟨⟨rowsSz_cons rfl rowsSz_nil, rfl⟩, fitN (n := (natRowsS A).length + 1) (b := 8) (by omega) (by omega), .inl ⟨rfl, rfl, ?_⟩⟩
        conv => whnf
        (refine gGo ?_; intros)
        refine And.intro (hsz _) ?_
        rw [hs2, hB]
        conv => whnf
        (refine gGo ?_; intros)
        refine ⟨⟨hsz _, by simp⟩, fitN (n := (natRowsS A).length + 1 + (natRowsS B).length) (b := 8) (by omega) (by omega), .inl ⟨rfl, rfl, ?_⟩⟩
        conv => whnf
        (refine gGo ?_; intros)
        have hrn : ((natRowsS A ++ [[.int .i64 (r : Nat)]]) ++ natRowsS B) = natRowsS (A ++ r :: B) := by simp [natRowsS, natL, intRows]
        refine ⟨_, _, ?_, ⟨r + 1, by omega, rfl, rfl⟩, [], [108, 110], [], LeG.mk' rfl rfl rfl (by repeat' (first | exact trivial | exact ⟨_, .refl _, rfl⟩ | (rw [hsn, ← hrn]; exact ⟨_, Lent.whole rfl rfl (by simp; omega) rfl (by first | exact .inl rfl | exact .inr rfl), rfl⟩) | apply And.intro)) .nil rfl rfl (by rw [hK]; rfl)⟩
        omega
  · have hre : r = rowsN t := by omega
    rw [hre]
    (refine gGr ?_; intros)
    exact ret0 rfl rfl rfl
set_option maxHeartbeats 16000000 in
theorem rowsSort_spec (t : Table) (c : Nat) (hv : validB t = true) (hc : c < t.cols.length) : Spec Tryz.prog 86 [.agg t.row, .agg [.int .i64 5, .int .i64 (c : Nat), .str [], .sl (natRowsS []) false]] [] (.sl (natRowsS (opRows t (.sort c) (rowsN t))) false) [] := by
  have hgc := colRows_get hc
  have hlc := valid_cells hv _ (List.getElem_mem hc)
  have eA : colK t c = t.cols[c].cells := by simp [colK, hc]
  generalize t.cols[c] = cc at *
  have sp2 := rows3_spec t
  have hcl := colRows_len t.cols
  have hvn := validB_n hv
  have hcc : ∀ (j : Nat) (hj : j < t.cols.length), (t.cols[j]).cells.length = rowsN t := fun j hj => valid_cells hv _ (List.getElem_mem hj)
  refine gEn env Tryz.func86 fun Γ hN hK hML => ?_
  refine gA ?_
  (refine gE env hN (by kernel_rfl) ?_; conv => whnf)
  (refine gGs ?_; intros)
  refine W.leG (mp := []) (bo := [2, 3]) (st' := ⟨[(2, .ro t.row 0), (3, .ro ([.int .i64 5, .int .i64 (c : Nat), .str [], .sl (natRowsS []) false]) 0)], [], []⟩)
    (LeG.mk' rfl rfl rfl ⟨⟨_, .bp 2 0 3 t.row none rfl rfl (by simp) (.inr rfl), rfl⟩, ⟨_, .bp 3 0 4 ([.int .i64 5, .int .i64 (c : Nat), .str [], .sl (natRowsS []) false]) none rfl rfl (by simp) (.inr rfl), rfl⟩, trivial⟩ .nil rfl rfl (by rw [hK]; rfl)) ?_
  (refine gGo ?_; intros)
  (refine gPC (sp2) ?_; conv => whnf)
  (refine gGo ?_; intros)
  refine W.loopG (fun m st => ∃ r : Nat, r ≤ rowsN t ∧ m = rowsN t - r ∧ st = ⟨[(2, .ro t.row 0), (3, .ro ([.int .i64 5, .int .i64 (c : Nat), .str [], .sl (natRowsS []) false]) 0), (5, .sl (natRowsS (opRows t (OpK.sort c) r)) false), (14, .int .i64 (rowsN t : Nat)), (15, .int .i64 (r : Nat))], [], []⟩)
    (rowsN t) _ ⟨0, by omega, by omega, rfl⟩ ⟨[], [], [], LeG.mk' rfl rfl rfl ⟨⟨_, .refl _, rfl⟩, ⟨_, .refl _, rfl⟩, ⟨_, .norm _, rfl⟩, ⟨_, .refl _, rfl⟩, ⟨_, .refl _, rfl⟩, trivial⟩ .nil rfl rfl (by rw [hK]; rfl)⟩ ?_
  rintro m st ⟨r, hr, rfl, rfl⟩
  (refine gGo ?_; intros)
  refine boolRes_split (fun hb => ?_) (fun hb => ?_) <;> conv => whnf
  · have hlt : r < rowsN t := by omega
    have hsn : opRows t (OpK.sort c) (r + 1) = opIns t (OpK.sort c) (opRows t (OpK.sort c) r) r := rfl
    have hol := opRows_len t (OpK.sort c) r
    have hmem : ∀ i ∈ opRows t (OpK.sort c) r, i < r := fun i hi => opRows_lt hi
    generalize opRows t (OpK.sort c) r = out at *
    have horl := natRowsS_len out
    refine gA ?_
    refine gC rfl ?_
    refine gF ?_
    conv => whnf
    refine gA ?_
    refine gB ?_
    refine gA ?_
    (refine gE env hN (by kernel_rfl) ?_; conv => whnf)
    (refine gGs ?_; intros)
    refine gA ?_
    (refine gE env hN (by kernel_rfl) ?_; conv => whnf)
    (refine gGs ?_; intros)
    refine W.cut (fun z => z = ⟨[(2, .ro t.row 0), (3, .ro ([.int .i64 5, .int .i64 (c : Nat), .str [], .sl (natRowsS []) false]) 0), (5, .sl (natRowsS (out)) false), (14, .int .i64 (rowsN t : Nat)), (15, .int .i64 (r : Nat)), (6, .int .i64 (r : Nat)), (7, .int .i64 (opAt t (OpK.sort c) out r : Nat)), (8, .bool (opKeep t (OpK.sort c) out r))], [], []⟩) ?_ ?_
    · skip
      have hg := cellRows_get (l := cc.cells) (i := r) (by omega)
      have hci : ∀ (i : Nat) (h : i < cc.cells.length), cellI cc.cells i = cc.cells[i] := fun i h => by simp [cellI, h]
      have hk : opKeep t (.sort c) out r = true := rfl
      have hat : opAt t (.sort c) out r = atK cc.cells out (cc.cells[r]'(by omega)) out.length := by
        show atK (colK t c) out (cellI (colK t c) r) out.length = _
        rw [eA, hci r (by omega)]
      rw [hk, hat]
      generalize cc.cells[r]'(by omega) = x at *
      (refine gGo ?_; intros)
      refine rowAt_of (by simpa using hgc) ?_
      conv => whnf
      (refine gGo ?_; intros)
      refine W.loopG (fun m st => ∃ i : Nat, i ≤ out.length ∧ atK cc.cells out x out.length = atK cc.cells out x i ∧ m = i ∧ st = ⟨[(2, .ro t.row 0), (3, .ro ([.int .i64 5, .int .i64 (c : Nat), .str [], .sl (natRowsS []) false]) 0), (5, .sl (natRowsS (out)) false), (14, .int .i64 (rowsN t : Nat)), (15, .int .i64 (r : Nat)), (6, .int .i64 (r : Nat)), (7, .int .i64 (i : Nat)), (8, .bool true), (12, .sl (cellRows cc.cells) false)], [], []⟩)
        out.length _ ⟨out.length, by omega, rfl, rfl, rfl⟩ ⟨[], [], [], LeG.mk' rfl rfl rfl (by rw [← horl]; exact (by repeat' (first | exact trivial | exact ⟨_, .refl _, rfl⟩ | apply And.intro))) .nil rfl rfl (by rw [hK]; rfl)⟩ ?_
      rintro i st ⟨_, hi, hpl, rfl, rfl⟩
      cases i with
      | zero =>
        have h0 : atK cc.cells out x 0 = 0 := rfl
        rw [hpl, h0]
        (refine gGo ?_; intros)
        exact ⟨_, rfl, .le (mp := []) (bo := []) (LeG.mq .nil)⟩
      | succ p =>
        have hpo : p < out.length := by omega
        have hgo := natL_get (rs := out) hpo
        have hop := hmem _ (List.getElem_mem hpo)
        have hgc := cellRows_get (l := cc.cells) (i := out[p]) (by omega)
        have hst : atK cc.cells out x (p + 1) = if 0 < cmpC (cc.cells[out[p]]'(by omega)) x then atK cc.cells out x p else p + 1 := by
          rw [atK, ← hci _ (by omega)]; simp [hpo]
        generalize cc.cells[out[p]]'(by omega) = y at *
        generalize out[p] = o at *
        have spC := cmpCell_spec y x
        (refine gGo ?_; intros)
        refine rowAt_of (r := [.int .i64 (o : Nat)]) (by rw [show ((p + 1 : Nat) : Int) - 1 = (p : Nat) by omega, Int.toNat_natCast]; exact hgo) ?_
        conv => whnf
        (refine gGo ?_; intros)
        refine rowAt_of (by simpa using hgc) ?_
        conv => whnf
        (refine gGo ?_; intros)
        refine rowAt_of (by simpa using hg) ?_
        conv => whnf
        (refine gGo ?_; intros)
        (refine gPC (spC) ?_; conv => whnf)
        (refine gGo ?_; intros)
        by_cases hlt2 : 0 < cmpC y x
        · rw [if_pos hlt2] at hst
          (refine gGo ?_; intros)
          refine ⟨_, _, ?_, ⟨p, by omega, by rw [hpl, hst], rfl, rfl⟩, [], [], [], LeG.mk' rfl rfl rfl (by repeat' (first | exact trivial | exact ⟨_, .refl _, rfl⟩ | (rw [show ((p + 1 : Nat) : Int) - 1 = (p : Nat) by omega]; exact ⟨_, .refl _, rfl⟩) | apply And.intro)) .nil rfl rfl (by rw [hK]; rfl)⟩
          omega
        · rw [if_neg hlt2] at hst
          rw [hpl, hst]
          (refine gGo ?_; intros)
          exact ⟨_, rfl, .le (mp := []) (bo := []) (LeG.mq .nil)⟩
    · rintro z rfl
      have hpl : opAt t (OpK.sort c) out r ≤ out.length := opAt_le _ _ _ _
      have hins : opIns t (OpK.sort c) out r = if opKeep t (OpK.sort c) out r = true then out.take (opAt t (OpK.sort c) out r) ++ r :: out.drop (opAt t (OpK.sort c) out r) else out := rfl
      rw [hins] at hsn
      clear hins
      generalize opAt t (OpK.sort c) out r = pl at *
      cases hkeep : opKeep t (OpK.sort c) out r with
      | false =>
        rw [hkeep, if_neg (by decide)] at hsn
        (refine gGo ?_; intros)
        refine ⟨_, _, ?_, ⟨r + 1, by omega, rfl, rfl⟩, [], [], [], LeG.mk' rfl rfl rfl (by rw [hsn]; exact (by repeat' (first | exact trivial | exact ⟨_, .refl _, rfl⟩ | apply And.intro))) .nil rfl rfl (by rw [hK]; rfl)⟩
        omega
      | true =>
        rw [hkeep, if_pos rfl] at hsn
        have hs1 : ∀ p : Nat, List.drop (Int.toNat 0) (List.take ((p : Int)).toNat (natRowsS out)) = natRowsS (out.take p) := fun p => by
          rw [Int.toNat_natCast]
          unfold natRowsS natL intRows
          rw [← List.map_take, ← List.map_take]; rfl
        have hs2 : ∀ p : Nat, List.drop ((p : Int)).toNat (List.take (((natRowsS out).length : Nat) : Int).toNat (natRowsS out)) = natRowsS (out.drop p) := fun p => by
          rw [Int.toNat_natCast, Int.toNat_natCast, List.take_length]
          unfold natRowsS natL intRows
          rw [← List.map_drop, ← List.map_drop]
        have hsz : ∀ l : List Nat, rowsSz (natRowsS l) 1 := fun l => by
          unfold rowsSz
          intro r hr
          obtain ⟨a, _, rfl⟩ := List.mem_map.1 hr
          rfl
        have hAl : (out.take pl).length = pl := by rw [List.length_take]; omega
        have hBl : (out.drop pl).length = out.length - pl := by rw [List.length_drop]
        (refine gGo ?_; intros)
        refine And.intro (hsz _) ?_
        rw [hs1]
        generalize out.take pl = A at *
        generalize hB : out.drop pl = B at *
        have hA2 := natRowsS_len A
        have hB2 := natRowsS_len B
        conv => whnf
        (refine gGo ?_; intros)
        refine ⟨hsz _, fitN (n := (natRowsS A).length) (b := 8) (by omega) (by omega), ?_⟩
        refine Or.inl ?_
        conv => whnf
        (refine gGo ?_; intros)
        refine ⟨⟨rowsSz_cons rfl rowsSz_nil, rfl⟩, fitN (n := (natRowsS A).length + 1) (b := 8) (by omega) (by omega), .inl ⟨rfl, rfl, ?_⟩⟩
        conv => whnf
        (refine gGo ?_; intros)
        refine And.intro (hsz _) ?_
        rw [hs2, hB]
        conv => whnf
        (refine gGo ?_; intros)
        refine ⟨⟨hsz _, by simp⟩, fitN (n := (natRowsS A).length + 1 + (natRowsS B).length) (b := 8) (by omega) (by omega), .inl ⟨rfl, rfl, ?_⟩⟩
        conv => whnf
        (refine gGo ?_; intros)
        have hrn : ((natRowsS A ++ [[.int .i64 (r : Nat)]]) ++ natRowsS B) = natRowsS (A ++ r :: B) := by simp [natRowsS, natL, intRows]
        refine ⟨_, _, ?_, ⟨r + 1, by omega, rfl, rfl⟩, [], [108, 110], [], LeG.mk' rfl rfl rfl (by repeat' (first | exact trivial | exact ⟨_, .refl _, rfl⟩ | (rw [hsn, ← hrn]; exact ⟨_, Lent.whole rfl rfl (by simp; omega) rfl (by first | exact .inl rfl | exact .inr rfl), rfl⟩) | apply And.intro)) .nil rfl rfl (by rw [hK]; rfl)⟩
        omega
  · have hre : r = rowsN t := by omega
    rw [hre]
    (refine gGr ?_; intros)
    exact ret0 rfl rfl rfl
end Go.Sx.Sp
namespace Go.Sx.Sp
open Go Go.Sx Go.Proofs
attribute [local irreducible] GoodW
theorem pure_cells (l : List Cell) : pureB (cellRows l) = true := by
  simp only [pureB, cellRows, List.all_map, List.all_eq_true]
  intro c _
  simp [Cell.row, V.sites]
set_option maxHeartbeats 4000000 in
theorem copy38_spec (t : Table) (ht : t.Few) : Spec Tryz.prog 29 [.agg t.row] [] (.agg t.row) [] := by
  have hcl := colRows_len t.cols
  have hcs := ht.cols
  refine gEn env Tryz.func29 fun Γ hN hK hML => ?_
  (refine gGo ?_; intros)
  refine W.ownCell 3 0 2 27 2 rfl rfl rfl rfl rfl ?_
  refine W.loopG (fun n st => ∃ k : Nat, k ≤ t.cols.length ∧ n = t.cols.length - k ∧ st = ⟨[(1, .bp 1 0), (2, .bp 2 0), (3, .bp 3 0), (12, .sl (colRows t.cols) false), (13, .int .i64 (colRows t.cols).length), (14, .int .i64 k)], [(1, [.rows 3 [t.row] none]), (2, [.rows 3 [[.int .i64 0, .str [], .nils]] none]), (3, [.rows 3 [[.int .i64 t.id, .str t.name, .osl 27 0 0 (colRows (t.cols.take k)).length (colRows (t.cols.take k)).length]] none]), (27, [.rows 2 (colRows (t.cols.take k)) (some [])])], [1, 2, 3, 27]⟩)
    t.cols.length _ ⟨0, Nat.zero_le _, rfl, rfl⟩ ⟨[(1, 1), (2, 2), (3, 3), (27, 27)], [], [], .mq (.ci 1 (.ci 2 (.ci 3 (.ci 27 .nil))))⟩ ?_
  rintro n st ⟨k, hk, rfl, rfl⟩
  (refine gGo ?_; intros)
  refine boolRes_split (fun hb => ?_) (fun hb => ?_) <;> conv => whnf
  · have hlt : k < t.cols.length := by omega
    have hx := colRows_get hlt
    have hcc := ht.cells _ (List.getElem_mem hlt)
    have htk : t.cols.take k ++ [t.cols[k]] = t.cols.take (k + 1) := (List.take_succ_eq_append_getElem hlt).symm
    have hcr := cellRows_len t.cols[k].cells
    have hlk : (colRows (t.cols.take k)).length = k := by rw [colRows_len]; simp; omega
    have hn := colRows_snoc (t.cols.take k) t.cols[k]
    rw [htk] at hn
    generalize t.cols[k] = c at *
    (refine gGo ?_; intros)
    refine rowAt_of hx ?_
    conv => whnf
    (refine gGo ?_; intros)
    refine ⟨cellRows_sz _, fitN (b := 24) (by rw [hcr]; exact hcc) (by omega), Or.inr ⟨⟨rfl, rfl, rfl, pure_cells _⟩, ?_⟩⟩
    conv => whnf
    (refine gGo ?_; intros)
    refine ⟨⟨rowsSz_cons rfl rowsSz_nil, rfl⟩, fitN (n := (colRows (t.cols.take k)).length + 1) (b := 40) (by omega) (by omega), .inl ⟨rfl, rfl, ?_⟩⟩
    conv => whnf
    (refine gGo ?_; intros)
    refine ⟨_, _, ?_, ⟨k + 1, by omega, rfl, rfl⟩, [(1, 1), (2, 2), (3, 3), (27, 27)], [], [], LeG.mq (.ci 1 (.ci 2 (.cons 3 rfl rfl (.refl _) ?_ (.cons 27 rfl rfl (.refl _) ?_ .nil))))⟩
    · omega
    · rw [hn, List.length_append]; rfl
    · rw [hn]; rfl
  · have hke : k = t.cols.length := by omega
    subst hke
    rw [List.take_length]
    (refine gGo ?_; intros)
    refine W.leG (mp := [(2, 2)]) (bo := [27]) (st' := ⟨[(2, .bp 2 0)], [(2, [.rows 3 [t.row] none])], [2]⟩) (LeG.mq (.cons 2 (b1 := .rows 3 [t.row] none) rfl rfl (.rows _ _ _ (by repeat' (first | exact trivial | exact ⟨Lent.refl _, rfl⟩ | exact ⟨Lent.norm _, rfl⟩ | exact ⟨Lent.whole rfl rfl (by first | rfl | exact List.length_append.symm | exact hlenR | simp) rfl (by first | exact .inl rfl | exact .inr rfl), rfl⟩ | apply And.intro))) rfl .nil)) ?_
    (refine gM ?_; conv => whnf)
    exact ret0 rfl rfl rfl
set_option maxHeartbeats 8000000 in
theorem do38_spec (t : Table) (o : OpK) (hv : validB t = true) (hc : canB t o = true) : Spec Tryz.prog 61 [.agg t.row, .agg o.row] [] (.agg (doM t o).row) [] := by
  cases o with
  | eq c s =>
    simp only [canB, Bool.and_eq_true, decide_eq_true_eq] at hc
    have sp1 := rowsEq_spec t c s hv hc.1
    have hlt : ∀ i ∈ opRows t (OpK.eq c s) (rowsN t), i < rowsN t := fun i hi => opRows_lt hi
    have hln := opRows_len t (OpK.eq c s) (rowsN t)
    have sp2 := select3_spec t (opRows t (OpK.eq c s) (rowsN t)) hv hlt (by simp only [validB, headB, Bool.and_eq_true, decide_eq_true_eq] at hv; omega)
    have hd : doM t (OpK.eq c s) = selT t (opRows t (OpK.eq c s) (rowsN t)) := rfl
    rw [hd]
    generalize selT t (opRows t (OpK.eq c s) (rowsN t)) = u at *
    generalize opRows t (OpK.eq c s) (rowsN t) = rs at *
    refine gEn env Tryz.func61 fun Γ hN hK hML => ?_
    refine gA ?_
    (refine gE env hN (by kernel_rfl) ?_; conv => whnf)
    (refine gGs ?_; intros)
    refine W.leG (mp := [(4, 4)]) (bo := [2, 3]) (st' := ⟨[(2, .ro t.row 0), (3, .ro ([.int .i64 1, .int .i64 (c : Nat), .str s, .sl (natRowsS []) false]) 0), (4, .bp 4 0)], [(4, [.rows 3 [[.int .i64 0, .str [], .nils]] none])], [4]⟩)
      (LeG.mk' rfl rfl rfl ⟨⟨_, .bp 2 0 3 t.row none rfl rfl (by simp) (.inr rfl), rfl⟩, ⟨_, .bp 3 0 4 ([.int .i64 1, .int .i64 (c : Nat), .str s, .sl (natRowsS []) false]) none rfl rfl (by simp) (.inr rfl), rfl⟩, ⟨_, .refl _, rfl⟩, trivial⟩ (.ci 4 .nil) rfl rfl (by rw [hK]; rfl)) ?_
    (refine gGo ?_; intros)
    (refine gPC (sp1) ?_; conv => whnf)
    (refine gGo ?_; intros)
    (refine gPC (sp2) ?_; conv => whnf)
    (refine gGo ?_; intros)
    (refine gM ?_; conv => whnf)
    exact retH rfl (.refl _) rfl rfl rfl trivial
  | full c =>
    simp only [canB, decide_eq_true_eq] at hc
    have sp1 := rowsFull_spec t c hv hc
    have hlt : ∀ i ∈ opRows t (OpK.full c) (rowsN t), i < rowsN t := fun i hi => opRows_lt hi
    have hln := opRows_len t (OpK.full c) (rowsN t)
    have sp2 := select3_spec t (opRows t (OpK.full c) (rowsN t)) hv hlt (by simp only [validB, headB, Bool.and_eq_true, decide_eq_true_eq] at hv; omega)
    have hd : doM t (OpK.full c) = selT t (opRows t (OpK.full c) (rowsN t)) := rfl
    rw [hd]
    generalize selT t (opRows t (OpK.full c) (rowsN t)) = u at *
    generalize opRows t (OpK.full c) (rowsN t) = rs at *
    refine gEn env Tryz.func61 fun Γ hN hK hML => ?_
    refine gA ?_
    (refine gE env hN (by kernel_rfl) ?_; conv => whnf)
    (refine gGs ?_; intros)
    refine W.leG (mp := [(4, 4)]) (bo := [2, 3]) (st' := ⟨[(2, .ro t.row 0), (3, .ro ([.int .i64 2, .int .i64 (c : Nat), .str [], .sl (natRowsS []) false]) 0), (4, .bp 4 0)], [(4, [.rows 3 [[.int .i64 0, .str [], .nils]] none])], [4]⟩)
      (LeG.mk' rfl rfl rfl ⟨⟨_, .bp 2 0 3 t.row none rfl rfl (by simp) (.inr rfl), rfl⟩, ⟨_, .bp 3 0 4 ([.int .i64 2, .int .i64 (c : Nat), .str [], .sl (natRowsS []) false]) none rfl rfl (by simp) (.inr rfl), rfl⟩, ⟨_, .refl _, rfl⟩, trivial⟩ (.ci 4 .nil) rfl rfl (by rw [hK]; rfl)) ?_
    (refine gGo ?_; intros)
    (refine gPC (sp1) ?_; conv => whnf)
    (refine gGo ?_; intros)
    (refine gPC (sp2) ?_; conv => whnf)
    (refine gGo ?_; intros)
    (refine gM ?_; conv => whnf)
    exact retH rfl (.refl _) rfl rfl rfl trivial
  | dist =>
    have sp1 := rowsDist_spec t hv
    have hlt : ∀ i ∈ opRows t (OpK.dist) (rowsN t), i < rowsN t := fun i hi => opRows_lt hi
    have hln := opRows_len t (OpK.dist) (rowsN t)
    have sp2 := select3_spec t (opRows t (OpK.dist) (rowsN t)) hv hlt (by simp only [validB, headB, Bool.and_eq_true, decide_eq_true_eq] at hv; omega)
    have hd : doM t (OpK.dist) = selT t (opRows t (OpK.dist) (rowsN t)) := rfl
    rw [hd]
    generalize selT t (opRows t (OpK.dist) (rowsN t)) = u at *
    generalize opRows t (OpK.dist) (rowsN t) = rs at *
    refine gEn env Tryz.func61 fun Γ hN hK hML => ?_
    refine gA ?_
    (refine gE env hN (by kernel_rfl) ?_; conv => whnf)
    (refine gGs ?_; intros)
    refine W.leG (mp := [(4, 4)]) (bo := [2, 3]) (st' := ⟨[(2, .ro t.row 0), (3, .ro ([.int .i64 4, .int .i64 0, .str [], .sl (natRowsS []) false]) 0), (4, .bp 4 0)], [(4, [.rows 3 [[.int .i64 0, .str [], .nils]] none])], [4]⟩)
      (LeG.mk' rfl rfl rfl ⟨⟨_, .bp 2 0 3 t.row none rfl rfl (by simp) (.inr rfl), rfl⟩, ⟨_, .bp 3 0 4 ([.int .i64 4, .int .i64 0, .str [], .sl (natRowsS []) false]) none rfl rfl (by simp) (.inr rfl), rfl⟩, ⟨_, .refl _, rfl⟩, trivial⟩ (.ci 4 .nil) rfl rfl (by rw [hK]; rfl)) ?_
    (refine gGo ?_; intros)
    (refine gPC (sp1) ?_; conv => whnf)
    (refine gGo ?_; intros)
    (refine gPC (sp2) ?_; conv => whnf)
    (refine gGo ?_; intros)
    (refine gM ?_; conv => whnf)
    exact retH rfl (.refl _) rfl rfl rfl trivial
  | sort c =>
    simp only [canB, decide_eq_true_eq] at hc
    have sp1 := rowsSort_spec t c hv hc
    have hlt : ∀ i ∈ opRows t (OpK.sort c) (rowsN t), i < rowsN t := fun i hi => opRows_lt hi
    have hln := opRows_len t (OpK.sort c) (rowsN t)
    have sp2 := select3_spec t (opRows t (OpK.sort c) (rowsN t)) hv hlt (by simp only [validB, headB, Bool.and_eq_true, decide_eq_true_eq] at hv; omega)
    have hd : doM t (OpK.sort c) = selT t (opRows t (OpK.sort c) (rowsN t)) := rfl
    rw [hd]
    generalize selT t (opRows t (OpK.sort c) (rowsN t)) = u at *
    generalize opRows t (OpK.sort c) (rowsN t) = rs at *
    refine gEn env Tryz.func61 fun Γ hN hK hML => ?_
    refine gA ?_
    (refine gE env hN (by kernel_rfl) ?_; conv => whnf)
    (refine gGs ?_; intros)
    refine W.leG (mp := [(4, 4)]) (bo := [2, 3]) (st' := ⟨[(2, .ro t.row 0), (3, .ro ([.int .i64 5, .int .i64 (c : Nat), .str [], .sl (natRowsS []) false]) 0), (4, .bp 4 0)], [(4, [.rows 3 [[.int .i64 0, .str [], .nils]] none])], [4]⟩)
      (LeG.mk' rfl rfl rfl ⟨⟨_, .bp 2 0 3 t.row none rfl rfl (by simp) (.inr rfl), rfl⟩, ⟨_, .bp 3 0 4 ([.int .i64 5, .int .i64 (c : Nat), .str [], .sl (natRowsS []) false]) none rfl rfl (by simp) (.inr rfl), rfl⟩, ⟨_, .refl _, rfl⟩, trivial⟩ (.ci 4 .nil) rfl rfl (by rw [hK]; rfl)) ?_
    (refine gGo ?_; intros)
    (refine gPC (sp1) ?_; conv => whnf)
    (refine gGo ?_; intros)
    (refine gPC (sp2) ?_; conv => whnf)
    (refine gGo ?_; intros)
    (refine gM ?_; conv => whnf)
    exact retH rfl (.refl _) rfl rfl rfl trivial
  | proj ks =>
    simp only [canB, Bool.and_eq_true, decide_eq_true_eq, List.all_eq_true] at hc
    have sp1 := project3_spec t ks hv hc.1 hc.2
    have hd : doM t (.proj ks) = projT t ks := rfl
    rw [hd]
    generalize projT t ks = u at *
    refine gEn env Tryz.func61 fun Γ hN hK hML => ?_
    (refine gGo ?_; intros)
    (refine gPC (sp1) ?_; conv => whnf)
    (refine gGo ?_; intros)
    (refine gM ?_; conv => whnf)
    exact retH rfl (.refl _) rfl rfl rfl trivial
set_option maxHeartbeats 8000000 in
theorem run38_spec (t : Table) (o : OpK) (hf : t.Few) (hn : t.cols.length ≤ 4294967295) (hk : o.ks.length ≤ 4294967295) : Spec Tryz.prog 27 [.agg t.row, .sl [o.row] false] [] (.tup [.agg (runM t o).1.row, .int .i64 (runM t o).2]) [] := by
  have sp1 := valid3_spec t
  have sp2 := can38_spec t o hn hk
  unfold runM
  refine gEn env Tryz.func27 fun Γ hN hK hML => ?_
  by_cases hv : validB t = true
  · rw [hv] at sp1
    rw [if_pos hv]
    by_cases hc : canB t o = true
    · have sp3 := do38_spec t o hv hc
      have sp4 := copy38_spec (doM t o) (doM_few hv hc)
      rw [hc] at sp2
      rw [if_pos hc]
      generalize doM t o = u at *
      (refine gGo ?_; intros)
      refine gL (by simp) ?_
      conv => whnf
      (refine gGo ?_; intros)
      (refine gPC (sp1) ?_; conv => whnf)
      (refine gGo ?_; intros)
      refine W.loopG (fun m st => (m = 1 ∧ st = ⟨[(2, .bp 2 0), (4, .bp 4 0), (18, .sl [o.row] false), (19, .int .i64 [o.row].length), (20, .int .i64 (0 : Nat))], [(2, [.rows 3 [(t).row] none]), (4, [.rows 3 [[.int .i64 0, .str [], .nils]] none])], [2, 4]⟩) ∨ (m = 0 ∧ st = ⟨[(2, .bp 2 0), (4, .bp 4 0), (18, .sl [o.row] false), (19, .int .i64 [o.row].length), (20, .int .i64 (1 : Nat))], [(2, [.rows 3 [(u).row] none]), (4, [.rows 3 [[.int .i64 0, .str [], .nils]] none])], [2, 4]⟩)) 1 _ (.inl ⟨rfl, rfl⟩) ⟨[(2, 2), (4, 4)], [], [], .mq (.ci 2 (.ci 4 .nil))⟩ ?_
      rintro m st (⟨rfl, rfl⟩ | ⟨rfl, rfl⟩)
      · (refine gGo ?_; intros)
        refine gK (by simp) ?_
        conv => whnf
        (refine gGo ?_; intros)
        (refine gPC (sp2) ?_; conv => whnf)
        (refine gGo ?_; intros)
        (refine gPC (sp3) ?_; conv => whnf)
        (refine gGo ?_; intros)
        refine ⟨_, _, ?_, .inr ⟨rfl, rfl⟩, ⟨[(2, 2), (4, 4)], [], [], .mq (.ci 2 (.ci 4 .nil))⟩⟩
        omega
      · (refine gGo ?_; intros)
        refine gL (by simp) ?_
        conv => whnf
        (refine gGo ?_; intros)
        (refine gPC (sp4) ?_; conv => whnf)
        (refine gGo ?_; intros)
        (refine gM ?_; conv => whnf)
        exact retH rfl (.refl _) rfl rfl rfl trivial
    · rw [if_neg hc]
      rw [Bool.not_eq_true _ |>.mp hc] at sp2
      (refine gGo ?_; intros)
      refine gL (by simp) ?_
      conv => whnf
      (refine gGo ?_; intros)
      (refine gPC (sp1) ?_; conv => whnf)
      (refine gGo ?_; intros)
      refine W.loopG (fun m st => m = 1 ∧ st = ⟨[(2, .bp 2 0), (4, .bp 4 0), (18, .sl [o.row] false), (19, .int .i64 [o.row].length), (20, .int .i64 (0 : Nat))], [(2, [.rows 3 [(t).row] none]), (4, [.rows 3 [[.int .i64 0, .str [], .nils]] none])], [2, 4]⟩) 1 _ ⟨rfl, rfl⟩ ⟨[(2, 2), (4, 4)], [], [], .mq (.ci 2 (.ci 4 .nil))⟩ ?_
      rintro m st ⟨rfl, rfl⟩
      (refine gGo ?_; intros)
      refine gK (by simp) ?_
      conv => whnf
      (refine gGo ?_; intros)
      (refine gPC (sp2) ?_; conv => whnf)
      (refine gGo ?_; intros)
      (refine gGr ?_; intros)
      exact ret0 rfl rfl rfl
  · rw [if_neg hv]
    rw [Bool.not_eq_true _ |>.mp hv] at sp1
    (refine gGo ?_; intros)
    refine gL (by simp) ?_
    conv => whnf
    (refine gGo ?_; intros)
    (refine gPC (sp1) ?_; conv => whnf)
    (refine gGo ?_; intros)
    (refine gGr ?_; intros)
    exact ret0 rfl rfl rfl
end Go.Sx.Sp
