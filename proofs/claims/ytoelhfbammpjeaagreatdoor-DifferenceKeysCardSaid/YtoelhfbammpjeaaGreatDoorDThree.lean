/- The same rows, and choosing rows. -/
import Derived.Test.YtoelhfbammpjeaaGreatDoorDTwo
import Derived.Test.YtoelhfbammpjeaaGreatDoorSxFour
set_option linter.unusedVariables false
set_option linter.unusedSimpArgs false
namespace Go.Sx.Sp
open Go Go.Sx Go.Proofs
attribute [local irreducible] GoodW
def cmpS (a b : Str) : Int := if Op.bytesLess a b = true then -1 else if Op.bytesLess a b = false ∧ a ≠ b then 1 else 0
theorem bytesLess_self : ∀ a : Str, Op.bytesLess a a = false
  | [] => rfl
  | x :: a => by simp [Op.bytesLess, bytesLess_self a]
theorem cmpS_zero (a b : Str) : cmpS a b = 0 ↔ a = b := by
  unfold cmpS
  constructor
  · intro h
    split at h
    · simp at h
    · split at h
      · simp at h
      · rename_i h1 h2
        rcases Classical.em (a = b) with e | e
        · exact e
        · exact absurd ⟨by simpa using h1, e⟩ h2
  · rintro rfl
    simp [bytesLess_self]
def cmpC (a b : Cell) : Int := if a.null = true then (if b.null = true then 0 else -1) else if b.null = true then 1 else cmpS a.text b.text
def CellG (c : Cell) : Prop := c.null = true → c.text = []
theorem cmpC_zero {a b : Cell} (ha : CellG a) (hb : CellG b) : cmpC a b = 0 ↔ a = b := by
  obtain ⟨an, at'⟩ := a
  obtain ⟨bn, bt⟩ := b
  unfold cmpC CellG at *
  cases an <;> cases bn <;> simp_all [cmpS_zero]
set_option maxHeartbeats 2000000 in
theorem cmpCell_spec (a b : Cell) : Spec Tryz.prog 79 [.agg a.row, .agg b.row] [] (.int .i64 (cmpC a b)) [] := by
  unfold cmpC
  obtain ⟨an, at'⟩ := a
  obtain ⟨bn, bt⟩ := b
  cases an <;> cases bn
  · show Spec _ _ _ _ (.int .i64 (cmpS at' bt)) _
    refine gEn env Tryz.func79 fun Γ hN hK hML => ?_
    (refine gGo ?_; intros)
    refine boolRes_split (fun hb => ?_) (fun hb => ?_) <;> conv => whnf
    · have hT : cmpS at' bt = -1 := by unfold cmpS; rw [if_pos hb]
      (refine gGr ?_; intros)
      exact ret0 rfl (by rw [hT]; rfl) rfl
    · (refine gGo ?_; intros)
      refine boolRes_split (fun hb => ?_) (fun hb => ?_) <;> conv => whnf
      · have hT : cmpS at' bt = 1 := by unfold cmpS; rw [if_neg (by assumption), if_pos hb]
        (refine gGr ?_; intros)
        exact ret0 rfl (by rw [hT]; rfl) rfl
      · have hT : cmpS at' bt = 0 := by unfold cmpS; rw [if_neg (by assumption), if_neg hb]
        (refine gGr ?_; intros)
        exact ret0 rfl (by rw [hT]; rfl) rfl
  · refine gEn env Tryz.func79 fun Γ hN hK hML => ?_
    (refine gGo ?_; intros)
    (refine gGr ?_; intros)
    exact ret0 rfl rfl rfl
  · refine gEn env Tryz.func79 fun Γ hN hK hML => ?_
    (refine gGo ?_; intros)
    (refine gGr ?_; intros)
    exact ret0 rfl rfl rfl
  · refine gEn env Tryz.func79 fun Γ hN hK hML => ?_
    (refine gGo ?_; intros)
    (refine gGr ?_; intros)
    exact ret0 rfl rfl rfl
def cmpR : List Cell → List Cell → Int
  | x :: a, y :: b => if cmpC x y = 0 then cmpR a b else cmpC x y
  | _, _ => 0
theorem cmpR_zero : ∀ {a b : List Cell}, a.length = b.length → (∀ x ∈ a, CellG x) → (∀ x ∈ b, CellG x) → (cmpR a b = 0 ↔ a = b)
  | [], [], _, _, _ => by simp [cmpR]
  | [], y :: b, h, _, _ => by simp at h
  | x :: a, [], h, _, _ => by simp at h
  | x :: a, y :: b, h, ha, hb => by
    have ih := cmpR_zero (a := a) (b := b) (by simpa using h) (fun z hz => ha z (List.mem_cons_of_mem _ hz)) (fun z hz => hb z (List.mem_cons_of_mem _ hz))
    have hxy := cmpC_zero (ha x List.mem_cons_self) (hb y List.mem_cons_self)
    rw [List.cons.injEq, ← hxy, ← ih]
    rw [show cmpR (x :: a) (y :: b) = if cmpC x y = 0 then cmpR a b else cmpC x y from rfl]
    by_cases e : cmpC x y = 0
    · simp [e]
    · simp [e]
set_option maxHeartbeats 4000000 in
theorem cmpRow_spec (a b : List Cell) (h : a.length = b.length) : Spec Tryz.prog 53 [.sl (cellRows a) false, .sl (cellRows b) false] [] (.int .i64 (cmpR a b)) [] := by
  have hla := cellRows_len a
  have hlb := cellRows_len b
  refine gEn env Tryz.func53 fun Γ hN hK hML => ?_
  (refine gGo ?_; intros)
  refine W.loopG (fun m st => ∃ j : Nat, j ≤ a.length ∧ cmpR a b = cmpR (a.drop j) (b.drop j) ∧ m = a.length - j ∧ st = ⟨[(0, .sl (cellRows a) false), (1, .sl (cellRows b) false), (8, .int .i64 (cellRows a).length), (9, .int .i64 j)], [], []⟩)
    a.length _ ⟨0, by omega, rfl, by omega, rfl⟩ ⟨[], [], [], .mq .nil⟩ ?_
  rintro m st ⟨j, hj, hc, rfl, rfl⟩
  (refine gGo ?_; intros)
  refine boolRes_split (fun hb => ?_) (fun hb => ?_) <;> conv => whnf
  · have hlt : j < a.length := by omega
    have hltb : j < b.length := by omega
    have hga := cellRows_get hlt
    have hgb := cellRows_get hltb
    have sp := cmpCell_spec a[j] b[j]
    rw [List.drop_eq_getElem_cons hlt, List.drop_eq_getElem_cons hltb] at hc
    rw [cmpR] at hc
    generalize a[j] = x at *
    generalize b[j] = y at *
    (refine gGo ?_; intros)
    refine rowAt_of (by simpa using hga) ?_
    conv => whnf
    (refine gGo ?_; intros)
    refine rowAt_of (by simpa using hgb) ?_
    conv => whnf
    (refine gGo ?_; intros)
    (refine gPC (sp) ?_; conv => whnf)
    (refine gGo ?_; intros)
    by_cases e : cmpC x y = 0
    · rw [if_pos e] at hc
      rw [e]
      (refine gGo ?_; intros)
      refine ⟨_, _, ?_, ⟨j + 1, by omega, hc, rfl, rfl⟩, ⟨[], [], [], .mq .nil⟩⟩
      omega
    · rw [if_neg e] at hc
      refine boolRes_true e ?_
      conv => whnf
      (refine gGr ?_; intros)
      exact ret0 rfl (by rw [hc]; rfl) rfl
  · have hje : j = a.length := by omega
    rw [hje, List.drop_length] at hc
    (refine gGr ?_; intros)
    exact ret0 rfl (by rw [hc]; rfl) rfl
set_option maxHeartbeats 2000000 in
theorem at3_spec (t : Table) (i : Nat) (hi : ∀ c ∈ t.cols, i < c.cells.length) (hn : t.cols.length ≤ 4294967295) : Spec Tryz.prog 54 [.agg t.row, .int .i64 i] [] (.sl (cellRows (rowM t i)) false) [] := by
  have hcl := colRows_len t.cols
  refine gEn env Tryz.func54 fun Γ hN hK hML => ?_
  (refine gGo ?_; intros)
  refine W.ownNil 5 51 2 rfl rfl ?_
  refine W.loopG (fun n st => ∃ j : Nat, j ≤ t.cols.length ∧ n = t.cols.length - j ∧ st = ⟨[(1, .int .i64 i), (5, .osl 51 0 0 j j), (9, .sl (colRows t.cols) false), (10, .int .i64 (colRows t.cols).length), (11, .int .i64 j)], [(51, [.rows 2 (cellRows ((rowM t i).take j)) (some [])])], [51]⟩)
    t.cols.length _ ⟨0, by omega, by omega, rfl⟩ ⟨[(51, 51)], [], [], .mq (.ci 51 .nil)⟩ ?_
  rintro n st ⟨j, hj, rfl, rfl⟩
  (refine gGo ?_; intros)
  refine boolRes_split (fun hb => ?_) (fun hb => ?_) <;> conv => whnf
  · have hlt : j < t.cols.length := by omega
    have hg := colRows_get hlt
    have hc := hi _ (List.getElem_mem hlt)
    have hsn : (rowM t i).take (j + 1) = (rowM t i).take j ++ [cellAt t.cols[j] i] := by
      rw [List.take_succ_eq_append_getElem (by rw [rowM_len]; exact hlt)]
      simp [rowM]
    have hjl : (cellRows ((rowM t i).take j)).length = j := by rw [cellRows_len, List.length_take, rowM_len]; omega
    have hca : cellAt t.cols[j] i = t.cols[j].cells[i] := by simp [cellAt, hc]
    rw [hca] at hsn
    generalize t.cols[j] = c at *
    have hgc := cellRows_get hc
    have hl := cellRows_len c.cells
    generalize c.cells[i] = x at *
    (refine gGo ?_; intros)
    refine rowAt_of (by simpa using hg) ?_
    conv => whnf
    (refine gGo ?_; intros)
    refine rowAt_of (by simpa using hgc) ?_
    conv => whnf
    (refine gGo ?_; intros)
    refine ⟨⟨rowsSz_cons rfl rowsSz_nil, hjl.symm⟩, fitN (n := j + 1) (b := 24) (by omega) (by omega), .inl ⟨rfl, rfl, ?_⟩⟩
    conv => whnf
    (refine gGo ?_; intros)
    refine ⟨_, _, ?_, ⟨j + 1, by omega, rfl, rfl⟩, [(51, 51)], [], [], LeG.mq (.cons 51 rfl rfl (.refl _) ?_ .nil)⟩
    · omega
    · rw [hsn]; simp only [cellRows, List.map_append]; rfl
  · have hje : j = t.cols.length := by omega
    have htk : (rowM t i).take j = rowM t i := List.take_of_length_le (by rw [rowM_len]; omega)
    have hjl : j = (cellRows (rowM t i)).length := by rw [cellRows_len, rowM_len]; omega
    rw [htk]
    refine W.leG (mp := []) (bo := [51]) (st' := ⟨[(5, .sl (cellRows (rowM t i)) false), (12, .bool false)], [], []⟩) (LeG.mk' rfl rfl rfl ⟨⟨_, Lent.whole rfl rfl hjl rfl (.inl rfl), rfl⟩, ⟨_, .refl _, rfl⟩, trivial⟩ .nil rfl rfl (by rw [hK]; rfl)) ?_
    (refine gGr ?_; intros)
    exact ret0 rfl rfl rfl
end Go.Sx.Sp
namespace Go.Sx.Sp
open Go Go.Sx Go.Proofs
attribute [local irreducible] GoodW
def rowsT (t : Table) : List (List Cell) := (List.range (rowsN t)).map (rowM t)
theorem rowsT_len (t : Table) : (rowsT t).length = rowsN t := by simp [rowsT]
theorem rowsT_get {t : Table} {i : Nat} (h : i < (rowsT t).length) : (rowsT t)[i] = rowM t i := by simp [rowsT]
theorem cellB_good {c : Cell} (h : cellB c = true) : CellG c := fun hn => by
  unfold cellB at h
  rw [hn] at h
  simpa using (Bool.and_eq_true_iff.1 h).2
theorem valid_good {t : Table} (h : validB t = true) {c : Column} (hc : c ∈ t.cols) : ∀ x ∈ c.cells, cellB x = true := by
  simp only [validB, headB, Bool.and_eq_true, decide_eq_true_eq, Bool.not_eq_true', List.any_eq_false] at h
  have h6 := h.2 c hc
  simp only [badCol, Bool.or_eq_true, decide_eq_true_eq, not_or, Decidable.not_not, Bool.not_eq_true', Bool.not_eq_false] at h6
  exact List.all_eq_true.1 h6.2
theorem rowM_good {t : Table} (h : validB t = true) {i : Nat} (hi : i < rowsN t) : ∀ x ∈ rowM t i, CellG x := fun x hx => by
  obtain ⟨c, hc, rfl⟩ := List.mem_map.1 hx
  have hl : i < c.cells.length := by rw [valid_cells h c hc]; exact hi
  have : cellAt c i = c.cells[i] := by simp [cellAt, hl]
  rw [this]
  exact cellB_good (valid_good h hc _ (List.getElem_mem hl))
theorem count_snocR {α : Type} [BEq α] [LawfulBEq α] [DecidableEq α] {l : List α} {k : Nat} (h : k < l.length) (p : α) : (l.take (k + 1)).count p = (l.take k).count p + if p = l[k] then 1 else 0 := by
  rw [List.take_succ_eq_append_getElem h, List.count_append, List.count_singleton]
  by_cases e : p = l[k]
  · simp [e]
  · have : ¬ l[k] = p := fun h => e h.symm
    simp [e, this]
set_option maxHeartbeats 16000000 in
theorem sameRowsP_spec (a b : Table) (va : validB a = true) (vb : validB b = true) (hc : a.cols.length = b.cols.length) (hp : (rowsT a).Perm (rowsT b)) : Spec Tryz.prog 21 [.agg a.row, .agg b.row] [] (.bool true) [] := by
  have hlenAB := hp.length_eq
  have hlA := rowsT_len a
  have hlB := rowsT_len b
  have sv1 := valid3_spec a
  have sv2 := valid3_spec b
  rw [va] at sv1
  rw [vb] at sv2
  have sr1 := rows3_spec a
  have sr2 := rows3_spec b
  have hc1 := colRows_len a.cols
  have hc2 := colRows_len b.cols
  have hA7 := validB_n va
  have fa := (validB_few va).cols
  have fb := (validB_few vb).cols
  have f64a : a.cols.length ≤ 4294967295 := by
    simp only [validB, headB, Bool.and_eq_true, decide_eq_true_eq] at va; omega
  have f64b : b.cols.length ≤ 4294967295 := by omega
  have rowA : ∀ i, i < rowsN a → Spec Tryz.prog 54 [.agg a.row, .int .i64 (i : Nat)] [] (.sl (cellRows (rowM a i)) false) [] := fun i hi => at3_spec a i (fun c hc => by rw [valid_cells va c hc]; exact hi) f64a
  have rowB : ∀ i, i < rowsN b → Spec Tryz.prog 54 [.agg b.row, .int .i64 (i : Nat)] [] (.sl (cellRows (rowM b i)) false) [] := fun i hi => at3_spec b i (fun c hc => by rw [valid_cells vb c hc]; exact hi) f64b
  have gA : ∀ i, i < rowsN a → ∀ x ∈ rowM a i, CellG x := fun i hi => rowM_good va hi
  have gB : ∀ i, i < rowsN b → ∀ x ∈ rowM b i, CellG x := fun i hi => rowM_good vb hi
  have gAt : ∀ i (h : i < rowsN a), (rowsT a)[i]'(by omega) = rowM a i := fun i h => rowsT_get _
  have gBt : ∀ i (h : i < rowsN b), (rowsT b)[i]'(by omega) = rowM b i := fun i h => rowsT_get _
  have mA : ∀ i, (rowM a i).length = a.cols.length := rowM_len a
  have mB : ∀ i, (rowM b i).length = b.cols.length := rowM_len b
  refine gEn env Tryz.func21 fun Γ hN hK hML => ?_
  (refine gGo ?_; intros)
  (refine gPC (sv1) ?_; conv => whnf)
  (refine gGo ?_; intros)
  (refine gPC (sv2) ?_; conv => whnf)
  (refine gGo ?_; intros)
  (refine gPC (sr1) ?_; conv => whnf)
  (refine gGo ?_; intros)
  (refine gPC (sr2) ?_; conv => whnf)
  (refine gGo ?_; intros)
  refine W.loopG (fun m st => ∃ r : Nat, r ≤ rowsN a ∧ m = rowsN a - r ∧ st = ⟨[(2, .bp 2 0), (3, .bp 3 0), (5, .int .i64 r)], [(2, [.rows 3 [a.row] none]), (3, [.rows 3 [b.row] none])], [2, 3]⟩)
    (rowsN a) _ ⟨0, by omega, by omega, rfl⟩ ⟨[(2, 2), (3, 3)], [], [], .mq (.ci 2 (.ci 3 .nil))⟩ ?_
  rintro m st ⟨r, hr, rfl, rfl⟩
  (refine gGo ?_; intros)
  (refine gPC (sr1) ?_; conv => whnf)
  (refine gGo ?_; intros)
  refine boolRes_split (fun hb => ?_) (fun hb => ?_) <;> conv => whnf
  · have hlt : r < rowsN a := by omega
    have sA := rowA r hlt
    have hcAB : (rowsT a).count (rowM a r) = (rowsT b).count (rowM a r) := hp.count_eq _
    have gp := gA r hlt
    have mp := mA r
    generalize rowM a r = p at *
    (refine gGo ?_; intros)
    refine W.loopG (fun m st => ∃ k : Nat, k ≤ rowsN a ∧ m = rowsN a - k ∧ st = ⟨[(2, .bp 2 0), (3, .bp 3 0), (5, .int .i64 r), (6, .int .i64 (((rowsT a).take k).count p : Nat)), (7, .int .i64 (((rowsT b).take k).count p : Nat)), (8, .int .i64 k)], [(2, [.rows 3 [a.row] none]), (3, [.rows 3 [b.row] none])], [2, 3]⟩)
      (rowsN a) _ ⟨0, by omega, by omega, rfl⟩ ⟨[(2, 2), (3, 3)], [], [], .mq (.ci 2 (.ci 3 .nil))⟩ ?_
    rintro m st ⟨k, hk, rfl, rfl⟩
    (refine gGo ?_; intros)
    (refine gPC (sr1) ?_; conv => whnf)
    (refine gGo ?_; intros)
    refine boolRes_split (fun hb => ?_) (fun hb => ?_) <;> conv => whnf
    · have hka : k < rowsN a := by omega
      have hkb : k < rowsN b := by omega
      have sA2 := rowA k hka
      have sB2 := rowB k hkb
      have c1 := cmpRow_spec p (rowM a k) (by rw [mp, mA])
      have c2 := cmpRow_spec p (rowM b k) (by rw [mp, mB, hc])
      have z1 := cmpR_zero (a := p) (b := rowM a k) (by rw [mp, mA]) gp (gA k hka)
      have z2 := cmpR_zero (a := p) (b := rowM b k) (by rw [mp, mB, hc]) gp (gB k hkb)
      have n1 := count_snocR (l := rowsT a) (k := k) (by omega) p
      have n2 := count_snocR (l := rowsT b) (k := k) (by omega) p
      rw [gAt k hka] at n1
      rw [gBt k hkb] at n2
      have m1 : ((rowsT a).take k).count p ≤ k := Nat.le_trans List.count_le_length (by simp; omega)
      have m2 : ((rowsT b).take k).count p ≤ k := Nat.le_trans List.count_le_length (by simp; omega)
      generalize rowM a k = x at *
      generalize rowM b k = y at *
      (refine gGo ?_; intros)
      (refine gPC (sA) ?_; conv => whnf)
      (refine gGo ?_; intros)
      (refine gPC (sA2) ?_; conv => whnf)
      (refine gGo ?_; intros)
      (refine gPC (c1) ?_; conv => whnf)
      (refine gGo ?_; intros)
      refine boolRes_split (fun hb => ?_) (fun hb => ?_) <;> conv => whnf
      · have k1 := z1.1 hb
        (refine gGo ?_; intros)
        (refine gPC (sA) ?_; conv => whnf)
        (refine gGo ?_; intros)
        (refine gPC (sB2) ?_; conv => whnf)
        (refine gGo ?_; intros)
        (refine gPC (c2) ?_; conv => whnf)
        (refine gGo ?_; intros)
        refine boolRes_split (fun hb => ?_) (fun hb => ?_) <;> conv => whnf
        · (refine gGo ?_; intros)
          refine ⟨_, _, ?_, ⟨k + 1, by omega, rfl, rfl⟩, [(2, 2), (3, 3)], [], [], LeG.mk' rfl rfl rfl ⟨⟨_, .refl _, rfl⟩, ⟨_, .refl _, rfl⟩, ⟨_, .refl _, rfl⟩, (by rw [n1, if_pos k1]; exact ⟨_, .refl _, rfl⟩), (by rw [n2, if_pos (z2.1 hb)]; exact ⟨_, .refl _, rfl⟩), ⟨_, .refl _, rfl⟩, trivial⟩ (.ci 2 (.ci 3 .nil)) rfl rfl (by rw [hK]; rfl)⟩
          omega
        · (refine gGo ?_; intros)
          refine ⟨_, _, ?_, ⟨k + 1, by omega, rfl, rfl⟩, [(2, 2), (3, 3)], [], [], LeG.mk' rfl rfl rfl ⟨⟨_, .refl _, rfl⟩, ⟨_, .refl _, rfl⟩, ⟨_, .refl _, rfl⟩, (by rw [n1, if_pos k1]; exact ⟨_, .refl _, rfl⟩), (by rw [n2, if_neg (fun e => hb (z2.2 e))]; exact ⟨_, .refl _, rfl⟩), ⟨_, .refl _, rfl⟩, trivial⟩ (.ci 2 (.ci 3 .nil)) rfl rfl (by rw [hK]; rfl)⟩
          omega
      · have k1 : ¬ p = x := fun e => hb (z1.2 e)
        (refine gGo ?_; intros)
        (refine gPC (sA) ?_; conv => whnf)
        (refine gGo ?_; intros)
        (refine gPC (sB2) ?_; conv => whnf)
        (refine gGo ?_; intros)
        (refine gPC (c2) ?_; conv => whnf)
        (refine gGo ?_; intros)
        refine boolRes_split (fun hb => ?_) (fun hb => ?_) <;> conv => whnf
        · (refine gGo ?_; intros)
          refine ⟨_, _, ?_, ⟨k + 1, by omega, rfl, rfl⟩, [(2, 2), (3, 3)], [], [], LeG.mk' rfl rfl rfl ⟨⟨_, .refl _, rfl⟩, ⟨_, .refl _, rfl⟩, ⟨_, .refl _, rfl⟩, (by rw [n1, if_neg k1]; exact ⟨_, .refl _, rfl⟩), (by rw [n2, if_pos (z2.1 hb)]; exact ⟨_, .refl _, rfl⟩), ⟨_, .refl _, rfl⟩, trivial⟩ (.ci 2 (.ci 3 .nil)) rfl rfl (by rw [hK]; rfl)⟩
          omega
        · (refine gGo ?_; intros)
          refine ⟨_, _, ?_, ⟨k + 1, by omega, rfl, rfl⟩, [(2, 2), (3, 3)], [], [], LeG.mk' rfl rfl rfl ⟨⟨_, .refl _, rfl⟩, ⟨_, .refl _, rfl⟩, ⟨_, .refl _, rfl⟩, (by rw [n1, if_neg k1]; exact ⟨_, .refl _, rfl⟩), (by rw [n2, if_neg (fun e => hb (z2.2 e))]; exact ⟨_, .refl _, rfl⟩), ⟨_, .refl _, rfl⟩, trivial⟩ (.ci 2 (.ci 3 .nil)) rfl rfl (by rw [hK]; rfl)⟩
          omega
    · have hke : k = rowsN a := by omega
      have e1 : ((rowsT a).take k).count p = (rowsT a).count p := by rw [List.take_of_length_le (by omega)]
      have e2 : ((rowsT b).take k).count p = (rowsT a).count p := by rw [List.take_of_length_le (by omega), hcAB]
      rw [e1, e2]
      (refine gGo ?_; intros)
      refine ⟨_, _, ?_, ⟨r + 1, by omega, rfl, rfl⟩, ⟨[(2, 2), (3, 3)], [], [], .mq (.ci 2 (.ci 3 .nil))⟩⟩
      omega
  · (refine gGr ?_; intros)
    exact ret0 rfl rfl rfl
end Go.Sx.Sp
namespace Go.Sx.Sp
open Go Go.Sx Go.Proofs
attribute [local irreducible] GoodW
def natL (rs : List Nat) : List Int := rs.map fun n : Nat => (n : Int)
theorem natL_len (rs : List Nat) : (natL rs).length = rs.length := by simp [natL]
theorem natL_get {rs : List Nat} {i : Nat} (h : i < rs.length) : (intRows .i64 (natL rs))[i]? = some [.int .i64 (rs[i] : Nat)] := by
  rw [intRows_get (k := .i64) (by rw [natL_len]; exact h)]
  simp [natL]
theorem natLRows_len (rs : List Nat) : (intRows .i64 (natL rs)).length = rs.length := by rw [intRows_len, natL_len]
set_option maxHeartbeats 1000000 in
theorem within1_spec (i n : Nat) (h : i < n) : Spec Tryz.prog 104 [.int .i64 (i : Nat), .ro [.int .i64 (n : Nat)] 0] [] (.bool true) [] := by
  refine gEn env Tryz.func104 fun Γ hN hK hML => ?_
  (refine gGo ?_; intros)
  (refine gGr ?_; intros)
  exact ret0 rfl rfl rfl
set_option maxHeartbeats 2000000 in
theorem everyInt_spec (rs : List Nat) (n : Nat) (h : ∀ i ∈ rs, i < n) : Spec Tryz.prog 103 [.sl (intRows .i64 (natL rs)) false, .fn 104 [.ro [.int .i64 (n : Nat)] 0]] [] (.bool true) [] := by
  have hl := natLRows_len rs
  refine gEn env Tryz.func103 fun Γ hN hK hML => ?_
  (refine gGo ?_; intros)
  refine W.loopG (fun m st => ∃ k : Nat, k ≤ rs.length ∧ m = rs.length - k ∧ st = ⟨[(1, .fn 104 [.ro [.int .i64 (n : Nat)] 0]), (7, .sl (intRows .i64 (natL rs)) false), (8, .int .i64 (intRows .i64 (natL rs)).length), (9, .int .i64 k)], [], []⟩)
    rs.length _ ⟨0, Nat.zero_le _, by omega, rfl⟩ ⟨[], [], [], .mq .nil⟩ ?_
  rintro m st ⟨k, hk, rfl, rfl⟩
  (refine gGo ?_; intros)
  refine boolRes_split (fun hb => ?_) (fun hb => ?_) <;> conv => whnf
  · have hlt : k < rs.length := by omega
    have hget := natL_get hlt
    have sp := within1_spec rs[k] n (h _ (List.getElem_mem hlt))
    generalize rs[k] = c at *
    (refine gGo ?_; intros)
    refine rowAt_of hget ?_
    conv => whnf
    (refine gGo ?_; intros)
    (refine gPC (sp) ?_; conv => whnf)
    (refine gGo ?_; intros)
    refine ⟨_, _, ?_, ⟨k + 1, by omega, rfl, rfl⟩, ⟨[], [], [], .mq .nil⟩⟩
    omega
  · (refine gGr ?_; intros)
    exact ret0 rfl rfl rfl
set_option maxHeartbeats 1000000 in
theorem within_spec (rs : List Nat) (n : Nat) (h : ∀ i ∈ rs, i < n) : Spec Tryz.prog 76 [.sl (intRows .i64 (natL rs)) false, .int .i64 (n : Nat)] [] (.bool true) [] := by
  have sp := everyInt_spec rs n h
  refine gEn env Tryz.func76 fun Γ hN hK hML => ?_
  refine gA ?_
  (refine gE env hN (by kernel_rfl) ?_; conv => whnf)
  (refine gGs ?_; intros)
  refine gA ?_
  refine W.leG (mp := []) (bo := [3]) (st' := ⟨[(0, .sl (intRows .i64 (natL rs)) false), (3, .ro [.int .i64 (n : Nat)] 0)], [], []⟩)
    (LeG.mk' rfl rfl rfl ⟨⟨_, .refl _, rfl⟩, ⟨_, .bp 3 0 1 [.int .i64 (n : Nat)] none rfl rfl (by simp) (.inr rfl), rfl⟩, trivial⟩ .nil rfl rfl (by rw [hK]; rfl)) ?_
  (refine gGo ?_; intros)
  (refine gPC (sp) ?_; conv => whnf)
  (refine gGr ?_; intros)
  exact ret0 rfl rfl rfl
def selC (c : Column) (rs : List Nat) : Column := ⟨c.name, rs.map (cellAt c)⟩
def selT (t : Table) (rs : List Nat) : Table := ⟨t.id, t.name, t.cols.map fun c => selC c rs⟩
theorem cellRows_snocS (a : List Cell) (c : Cell) : cellRows (a ++ [c]) = cellRows a ++ [c.row] := by simp [cellRows]
theorem colRows_snocS (a : List Column) (c : Column) : colRows (a ++ [c]) = colRows a ++ [c.row] := by simp [colRows]
set_option maxHeartbeats 4000000 in
theorem select1_spec (t : Table) (rs : List Nat) (j : Nat) (hj : j < t.cols.length) (h : ∀ i ∈ rs, i < (t.cols[j]).cells.length) (hn : rs.length ≤ 4294967295) : Spec Tryz.prog 78 [.int .i64 (j : Nat), .ro t.row 0, .ro [.sl (intRows .i64 (natL rs)) false] 0] [] (.agg (selC t.cols[j] rs).row) [] := by
  have hx := colRows_get hj
  have hl := colRows_len t.cols
  have hr := natLRows_len rs
  generalize t.cols[j] = c at *
  refine gEn env Tryz.func78 fun Γ hN hK hML => ?_
  (refine gGo ?_; intros)
  refine rowAt_of (by simpa using hx) ?_
  conv => whnf
  (refine gGo ?_; intros)
  refine W.ownCell 5 0 1 90 2 rfl rfl rfl rfl rfl ?_
  refine W.loopG (fun m st => ∃ k : Nat, k ≤ rs.length ∧ m = rs.length - k ∧ st = ⟨[(0, .int .i64 (j : Nat)), (1, .ro t.row 0), (2, .ro [.sl (intRows .i64 (natL rs)) false] 0), (4, .bp 4 0), (5, .bp 5 0), (15, .sl (intRows .i64 (natL rs)) false), (16, .int .i64 (intRows .i64 (natL rs)).length), (17, .int .i64 k)],
      [(4, [.rows 2 [[.str [], .nils]] none]), (5, [.rows 2 [[.str c.name, .osl 90 0 0 k k]] none]), (90, [.rows 2 (cellRows ((rs.take k).map (cellAt c))) (some [])])], [4, 5, 90]⟩)
    rs.length _ ⟨0, by omega, by omega, rfl⟩ ⟨[(4, 4), (5, 5), (90, 90)], [], [], .mq (.ci 4 (.ci 5 (.ci 90 .nil)))⟩ ?_
  rintro m st ⟨k, hk, rfl, rfl⟩
  (refine gGo ?_; intros)
  refine boolRes_split (fun hb => ?_) (fun hb => ?_) <;> conv => whnf
  · have hlt : k < rs.length := by omega
    have hg := natL_get hlt
    have hi := h _ (List.getElem_mem hlt)
    have hsn : (rs.take (k + 1)).map (cellAt c) = (rs.take k).map (cellAt c) ++ [cellAt c rs[k]] := by
      rw [List.take_succ_eq_append_getElem hlt, List.map_append]; rfl
    have hcl : (cellRows ((rs.take k).map (cellAt c))).length = k := by rw [cellRows_len, List.length_map, List.length_take]; omega
    generalize rs[k] = i at *
    have hca : cellAt c i = c.cells[i] := by simp [cellAt, hi]
    have hgc := cellRows_get hi
    have hcc := cellRows_len c.cells
    rw [hca] at hsn
    generalize c.cells[i] = x at *
    (refine gGo ?_; intros)
    refine rowAt_of hg ?_
    conv => whnf
    (refine gGo ?_; intros)
    refine rowAt_of (by simpa using hx) ?_
    conv => whnf
    (refine gGo ?_; intros)
    refine rowAt_of (by simpa using hgc) ?_
    conv => whnf
    (refine gGo ?_; intros)
    refine ⟨⟨rowsSz_cons rfl rowsSz_nil, hcl.symm⟩, fitN (n := k + 1) (b := 24) (by omega) (by omega), .inl ⟨rfl, rfl, ?_⟩⟩
    conv => whnf
    (refine gGo ?_; intros)
    refine ⟨_, _, ?_, ⟨k + 1, by omega, rfl, rfl⟩, [(4, 4), (5, 5), (90, 90)], [], [], LeG.mq (.ci 4 (.cons 5 rfl rfl (.refl _) ?_ (.cons 90 rfl rfl (.refl _) ?_ .nil)))⟩
    · omega
    · rfl
    · rw [hsn, cellRows_snocS]; rfl
  · have hke : k = rs.length := by omega
    have e2 : (rs.take k).map (cellAt c) = rs.map (cellAt c) := by rw [hke, List.take_length]
    have hcl : k = (cellRows (rs.map (cellAt c))).length := by rw [cellRows_len, List.length_map, hke]
    rw [e2]
    refine W.leG (mp := [(4, 4), (5, 5)]) (bo := [90]) (st' := ⟨[(4, .bp 4 0), (5, .bp 5 0), (18, .bool false)], [(4, [.rows 2 [[.str [], .nils]] none]), (5, [.rows 2 [(selC c rs).row] none])], [4, 5]⟩)
      (LeG.mq (.ci 4 (.cons 5 (b1 := .rows 2 [(selC c rs).row] none) rfl rfl (.rows _ _ _ ⟨⟨⟨.refl _, rfl⟩, ⟨Lent.whole rfl rfl hcl rfl (by first | exact .inl rfl | exact .inr rfl), rfl⟩, trivial⟩, trivial⟩) rfl .nil))) ?_
    (refine gGr ?_; intros)
    exact ret0 rfl rfl rfl
end Go.Sx.Sp
