/- Relations of a list, drawn paths, rows of paths as the document tells them. -/
import Derived.Test.YthmohnenobkmcaaGreatDoorJFive
import Derived.Test.YthmohnenobkmcaaGreatDoorJFour
import Derived.Test.YthmohnenobkmcaaGreatDoorSxFour
set_option linter.unusedVariables false
set_option linter.unusedSimpArgs false
namespace Go.Sx.Sp
open Go Go.Sx Go.Proofs
attribute [local irreducible] GoodW famL
set_option maxHeartbeats 4000000 in
theorem contained_spec (r0 r1 r2 r3 r6 r7 r8 r9 r10 : Int) (x y : Nat) (hx0 : x ≠ 0) (hx : x ≤ 4096) (hy : y ≤ 4096) : Spec Tryz.prog 118 [.agg (intsV [r0, r1, r2, r3, x, y, r6, r7, r8, r9, r10])] [] (.agg (fracV (partF x (x + y)).1 (partF x (x + y)).2)) [] := by
  have sp := part_spec x (x + y) (by omega) (by omega) (by omega)
  rw [Int.natCast_add] at sp
  generalize (partF x (x + y)).1 = p at *
  generalize (partF x (x + y)).2 = q at *
  refine gEn env Tryz.func118 fun Γ hN hK hML => ?_
  (refine gGo ?_; intros)
  (refine gPC (sp) ?_; conv => whnf)
  (refine gGo ?_; intros)
  (refine gM ?_; conv => whnf)
  exact retH rfl (.norm _) rfl rfl rfl trivial
set_option maxHeartbeats 4000000 in
theorem turn29_spec (r0 r1 r2 r3 r4 r5 r6 r7 r8 r9 r10 : Int) : Spec Tryz.prog 99 [.agg (intsV [r0, r1, r2, r3, r4, r5, r6, r7, r8, r9, r10])] [] (.agg (intsV [r2, r3, r0, r1, r4, r6, r5, r8, r7, r10, r9])) [] := by
  refine gEn env Tryz.func99 fun Γ hN hK hML => ?_
  (refine gGo ?_; intros)
  (refine gM ?_; conv => whnf)
  exact retH rfl (.norm _) rfl rfl rfl trivial
theorem ascB_iff : ∀ (l : List Table), ascB l = true ↔ ∀ i (h : i + 1 < l.length), l[i].id < l[i + 1].id
  | [] => by simp [ascB]
  | [a] => by simp [ascB]
  | a :: b :: r => by
    have ih := ascB_iff (b :: r)
    simp only [ascB, Bool.and_eq_true, decide_eq_true_eq, ih]
    constructor
    · rintro ⟨h1, h2⟩ i hi
      cases i with
      | zero => exact h1
      | succ i => exact h2 i (by simp at hi ⊢; omega)
    · intro h
      refine ⟨h 0 (by simp), fun i hi => ?_⟩
      exact h (i + 1) (by simp at hi ⊢; omega)
theorem listB_iff (l : List Table) : listB l = true ↔ (∀ i (h : i < l.length), validB l[i] = true) ∧ (∀ i (h : i + 1 < l.length), l[i].id < l[i + 1].id) ∧ l.length ≤ 1024 := by
  unfold listB
  simp only [Bool.and_eq_true, decide_eq_true_eq, ascB_iff, List.all_eq_true]
  constructor
  · rintro ⟨h1, h2, h3⟩
    exact ⟨fun i h => h3 _ (List.getElem_mem h), h1, h2⟩
  · rintro ⟨h1, h2, h3⟩
    refine ⟨h2, h3, fun t ht => ?_⟩
    obtain ⟨i, h, rfl⟩ := List.getElem_of_mem ht
    exact h1 i h
set_option maxHeartbeats 8000000 in
theorem validList3_spec (l : List Table) : Spec Tryz.prog 76 [.sl (tblRows l) false] [] (.bool (listB l)) [] := by
  have hl := tblRows_len l
  refine gEn env Tryz.func76 fun Γ hN hK hML => ?_
  (refine gGo ?_; intros)
  refine W.loopG (fun n st => ∃ k : Nat, k ≤ l.length ∧ (∀ i (h : i < l.length), i < k → validB l[i] = true) ∧ (∀ i (h : i + 1 < l.length), i + 1 < k → l[i].id < l[i + 1].id) ∧ n = l.length - k ∧ st = ⟨[(0, .sl (tblRows l) false), (5, .sl (tblRows l) false), (6, .int .i64 (tblRows l).length), (7, .int .i64 k)], [], []⟩)
    l.length _ ⟨0, by omega, fun i h hi => by omega, fun i h hi => by omega, by omega, rfl⟩ ⟨[], [], [], .mq .nil⟩ ?_
  rintro n st ⟨k, hk, hv, ha, rfl, rfl⟩
  (refine gGo ?_; intros)
  refine boolRes_split (fun hb => ?_) (fun hb => ?_) <;> conv => whnf
  · have hlt : k < l.length := by omega
    have hg := tblRows_get hlt
    have sp := valid3_spec l[k]
    have hvn := fun (hv2 : validB l[k] = true) (i : Nat) (h : i < l.length) (hi : i < k + 1) => show validB l[i] = true from by
      by_cases e : i = k
      · subst e; exact hv2
      · exact hv i h (by omega)
    cases hvk : validB l[k] with
    | false =>
      have hT : listB l = false := by
        cases h : listB l with
        | false => rfl
        | true => have := ((listB_iff l).1 h).1 k hlt; rw [hvk] at this; cases this
      rw [hvk] at sp
      generalize l[k] = t at *
      (refine gGo ?_; intros)
      refine rowAt_of (by simpa using hg) ?_
      conv => whnf
      (refine gGo ?_; intros)
      (refine gPC (sp) ?_; conv => whnf)
      (refine gGr ?_; intros)
      exact ret0 rfl (congrArg V.bool hT.symm) rfl
    | true =>
      rw [hvk] at sp
      have hvm := hvn hvk
      clear hvn
      by_cases hk0 : k = 0
      · subst hk0
        generalize l[0] = t at *
        (refine gGo ?_; intros)
        refine rowAt_of (by simpa using hg) ?_
        conv => whnf
        (refine gGo ?_; intros)
        (refine gPC (sp) ?_; conv => whnf)
        (refine gGo ?_; intros)
        refine ⟨_, _, ?_, ⟨0 + 1, by omega, hvm, fun i h hi => by omega, rfl, rfl⟩, ⟨[], [], [], .mq .nil⟩⟩
        omega
      · obtain ⟨q, rfl⟩ : ∃ q, k = q + 1 := ⟨k - 1, by omega⟩
        have hlq : q < l.length := by omega
        have hgq := tblRows_get hlq
        have hge : (tblRows l)[(((q + 1 : Nat) : Int) - 1).toNat]? = some l[q].row := by
          rw [show (((q + 1 : Nat) : Int) - 1).toNat = q by omega]; exact hgq
        have han := fun (h2 : l[q].id < l[q + 1].id) (i : Nat) (h : i + 1 < l.length) (hi : i + 1 < q + 1 + 1) => show l[i].id < l[i + 1].id from by
          by_cases e : i = q
          · subst e; exact h2
          · exact ha i h (by omega)
        have hF : ¬ l[q].id < l[q + 1].id → listB l = false := fun h2 => by
          cases h : listB l with
          | false => rfl
          | true => exact absurd (((listB_iff l).1 h).2.1 q hlt) h2
        generalize l[q + 1] = t at *
        generalize l[q] = u at *
        (refine gGo ?_; intros)
        refine rowAt_of (by simpa using hg) ?_
        conv => whnf
        (refine gGo ?_; intros)
        (refine gPC (sp) ?_; conv => whnf)
        (refine gGo ?_; intros)
        refine rowAt_of hge ?_
        conv => whnf
        (refine gGo ?_; intros)
        refine boolRes_split (fun hb => ?_) (fun hb => ?_) <;> conv => whnf
        · have hT := hF (by omega)
          (refine gGr ?_; intros)
          exact ret0 rfl (congrArg V.bool hT.symm) rfl
        · (refine gGo ?_; intros)
          refine ⟨_, _, ?_, ⟨q + 1 + 1, by omega, hvm, han (by omega), rfl, rfl⟩, ⟨[], [], [], .mq .nil⟩⟩
          omega
  · have hke : k = l.length := by omega
    subst hke
    have hT : listB l = decide (l.length ≤ 1024) := by
      rw [Bool.eq_iff_iff, listB_iff, decide_eq_true_eq]
      exact ⟨fun h => h.2.2, fun h => ⟨fun i h => hv i h h, fun i h => ha i h h, h⟩⟩
    rw [hT]
    (refine gGo ?_; intros)
    refine boolRes_keep ?_
    conv => whnf
    (refine gGr ?_; intros)
    exact ret0 rfl (congrArg V.bool (decide_eq_decide.2 (by omega))) rfl
end Go.Sx.Sp
namespace Go.Sx.Sp
open Go Go.Sx Go.Proofs
attribute [local irreducible] GoodW famL
def relRows (l : List (List Int)) : List (List V) := l.map intsV
theorem relRows_len (l : List (List Int)) : (relRows l).length = l.length := by simp [relRows]
theorem relRows_snoc (a : List (List Int)) (t : List Int) : relRows (a ++ [t]) = relRows a ++ [intsV t] := by simp [relRows]
def edgeC (a : Table) (i : Nat) (b : Table) (j : Nat) : List (List Int) := if 0 < (of29E a i b j).1.getD 4 0 then [(of29E a i b j).1] else []
def edgeB (a : Table) (i : Nat) (b : Table) (n : Nat) : List (List Int) := (List.range n).flatMap (edgeC a i b)
def edgeR (a : Table) (i : Nat) (bs : List Table) : List (List Int) := bs.flatMap fun b => edgeB a i b b.cols.length
def edgeA (l : List Table) (k n : Nat) : List (List Int) := (List.range n).flatMap fun i => edgeR (l.getD k Table.zero) i (l.drop (k + 1))
def edgeL (l : List Table) (n : Nat) : List (List Int) := (List.range n).flatMap fun k => edgeA l k (l.getD k Table.zero).cols.length
def edges (l : List Table) : List (List Int) := edgeL l l.length
theorem range_flat {α : Type} (f : Nat → List α) (n : Nat) : (List.range (n + 1)).flatMap f = (List.range n).flatMap f ++ f n := by simp [List.range_succ]
theorem flat_le {α β : Type} (f : α → List β) (B : Nat) : ∀ (l : List α), (∀ x ∈ l, (f x).length ≤ B) → (l.flatMap f).length ≤ l.length * B
  | [], _ => by simp
  | x :: l, h => by
    have h1 := h x (by simp)
    have h2 := flat_le f B l fun y hy => h y (by simp [hy])
    rw [List.flatMap_cons, List.length_append, List.length_cons, Nat.add_mul]; omega
theorem edgeC_len (a : Table) (i : Nat) (b : Table) (j : Nat) : (edgeC a i b j).length ≤ 1 := by unfold edgeC; split <;> simp
theorem edgeB_len (a : Table) (i : Nat) (b : Table) (n : Nat) : (edgeB a i b n).length ≤ n := by
  have := flat_le (edgeC a i b) 1 (List.range n) (fun j _ => edgeC_len a i b j)
  unfold edgeB
  simpa using this
theorem edgeR_len (a : Table) (i : Nat) {bs : List Table} (h : ∀ b ∈ bs, b.cols.length ≤ 64) : (edgeR a i bs).length ≤ bs.length * 64 :=
  flat_le _ 64 bs fun b hb => Nat.le_trans (edgeB_len a i b _) (h b hb)
theorem edgeA_len {l : List Table} (h : ∀ b ∈ l, b.cols.length ≤ 64) (hl : l.length ≤ 100) (k n : Nat) : (edgeA l k n).length ≤ n * 6400 := by
  have := flat_le (fun i => edgeR (l.getD k Table.zero) i (l.drop (k + 1))) 6400 (List.range n) (fun i _ => by
    have := edgeR_len (l.getD k Table.zero) i (bs := l.drop (k + 1)) (fun b hb => h b (List.mem_of_mem_drop hb))
    rw [List.length_drop] at this
    omega)
  rwa [List.length_range] at this
theorem edgeL_len {l : List Table} (h : ∀ b ∈ l, b.cols.length ≤ 64) (hl : l.length ≤ 100) {n : Nat} (hn : n ≤ l.length) : (edgeL l n).length ≤ n * 409600 := by
  have := flat_le (fun k => edgeA l k (l.getD k Table.zero).cols.length) 409600 (List.range n) (fun k hk => by
    have hk := List.mem_range.1 hk
    have h1 := edgeA_len h hl k (l.getD k Table.zero).cols.length
    have h2 : (l.getD k Table.zero).cols.length ≤ 64 := by
      rw [List.getD_eq_getElem?_getD, List.getElem?_eq_getElem (show k < l.length by omega)]
      exact h _ (List.getElem_mem _)
    omega)
  rwa [List.length_range] at this
theorem edgeR_snoc (a : Table) (i : Nat) (bs : List Table) (b : Table) : edgeR a i (bs ++ [b]) = edgeR a i bs ++ edgeB a i b b.cols.length := by simp [edgeR]
theorem edgeA_succ (l : List Table) (k i : Nat) : edgeA l k (i + 1) = edgeA l k i ++ edgeR (l.getD k Table.zero) i (l.drop (k + 1)) := range_flat _ _
theorem edgeL_succ (l : List Table) (k : Nat) : edgeL l (k + 1) = edgeL l k ++ edgeA l k (l.getD k Table.zero).cols.length := range_flat _ _
theorem of29_form {a b : Table} (ha : validB a = true) (hb : validB b = true) {i j : Nat} (hi : i < a.cols.length) (hj : j < b.cols.length) :
    ∃ (x y : Nat) (r6 r7 r8 r9 r10 : Int), of29E a i b j = ([a.id, (i : Int), b.id, (j : Int), (x : Int), (y : Int), r6, r7, r8, r9, r10], 0) ∧ x ≤ 4096 ∧ y ≤ 4096 := by
  have he : of29E a i b j = (rel29L a i b j, 0) := by
    unfold of29E
    rw [if_neg (by simp [ha, hb]), if_neg (fun h => h ⟨by omega, by omega, by omega, by omega⟩)]; rfl
  have hva := validB_rows ha
  have hvb := validB_rows hb
  have lA := hva.2 _ (List.getElem_mem hi)
  have lB := hvb.2 _ (List.getElem_mem hj)
  have mA := cntC_mems a.cols[i].cells
  have mB := cntC_mems b.cols[j].cells
  have hbd := ahL_bound (cntC a.cols[i].cells) (cntC b.cols[j].cells) (rowsN a) (rowsN b) (fun p hp => by have := mA.1 p hp; omega) (fun p hp => by have := mB.1 p hp; omega) (List.range (cntC a.cols[i].cells).length)
  rw [List.length_range] at hbd
  obtain ⟨c1, c2, _, _, _, _, _⟩ := hbd
  obtain ⟨x, hx⟩ := Int.eq_ofNat_of_zero_le c1.1
  obtain ⟨y, hy⟩ := Int.eq_ofNat_of_zero_le c2.1
  rw [he]
  refine ⟨x, y, (cntC b.cols[j].cells).length - (ahM (cntC a.cols[i].cells) (cntC b.cols[j].cells) (rowsN a) (rowsN b)).common, (ahM (cntC a.cols[i].cells) (cntC b.cols[j].cells) (rowsN a) (rowsN b)).mostA, (ahM (cntC a.cols[i].cells) (cntC b.cols[j].cells) (rowsN a) (rowsN b)).mostB, (ahM (cntC a.cols[i].cells) (cntC b.cols[j].cells) (rowsN a) (rowsN b)).lostA, (ahM (cntC a.cols[i].cells) (cntC b.cols[j].cells) (rowsN a) (rowsN b)).lostB, ?_, by omega, by omega⟩
  rw [← hx, ← hy]
  simp [rel29L, hi, hj]
  exact ⟨rfl, rfl⟩
set_option maxHeartbeats 32000000 in
theorem build_spec (l : List Table) (hv : listB l = true) (hl : l.length ≤ 100) : Spec Tryz.prog 69 [.sl (tblRows l) false, .agg (fracV 0 1)] [] (.tup [.sl (relRows (edges l)) false, .int .i64 0]) [] := by
  have spV := validList3_spec l
  rw [hv] at spV
  have sp0 := zero23_spec
  have sp1 := less23_spec 0 1 zeroOK
  have sp2 := int23_spec 1 (by decide)
  have sp3 := less23_spec (partF 1 1).1 (partF 1 1).2 (partF_ok (by decide) (by decide) (by decide))
  have hal := listB_valid hv
  have hcols : ∀ b ∈ l, b.cols.length ≤ 64 := fun b hb => by
    have := hal b hb
    unfold validB headB at this
    simp only [Bool.and_eq_true, decide_eq_true_eq] at this
    exact this.1.1.2
  have htl := tblRows_len l
  generalize (partF 1 1).1 = p1 at *
  generalize (partF 1 1).2 = q1 at *
  refine gEn env Tryz.func69 fun Γ hN hK hML => ?_
  (refine gGo ?_; intros)
  (refine gPC (spV) ?_; conv => whnf)
  (refine gGo ?_; intros)
  (refine gPC (sp0) ?_; conv => whnf)
  (refine gGo ?_; intros)
  (refine gPC (sp1) ?_; conv => whnf)
  (refine gGo ?_; intros)
  (refine gPC (sp2) ?_; conv => whnf)
  (refine gGo ?_; intros)
  (refine gPC (sp3) ?_; conv => whnf)
  (refine gGo ?_; intros)
  refine W.ownNil 6 90 11 rfl rfl ?_
  refine W.leG (mp := [(3, 3), (90, 90)]) (bo := []) (st' := ⟨[(0, .sl (tblRows l) false), (3, .bp 3 0), (6, .osl 90 0 0 0 0), (28, .sl (tblRows l) false), (29, .int .i64 (tblRows l).length), (30, .int .i64 0)], [(3, [.rows 4 [fracV 0 1] none]), (90, [.rows 11 [] (some [])])], [3, 90]⟩)
    (LeG.mq (.ci 3 (.ci 90 .nil))) ?_
  refine W.loopG (fun n st => ∃ (k : Nat) (out : List (List Int)), k ≤ l.length ∧ out = edgeL l k ∧ n = l.length - k ∧ st = ⟨[(0, .sl (tblRows l) false), (3, .bp 3 0), (6, .osl 90 0 0 (relRows out).length (relRows out).length), (28, .sl (tblRows l) false), (29, .int .i64 (tblRows l).length), (30, .int .i64 k)], [(3, [.rows 4 [fracV 0 1] none]), (90, [.rows 11 (relRows out) (some [])])], [3, 90]⟩)
    l.length _ ⟨0, [], by omega, rfl, by omega, rfl⟩ ⟨[(3, 3), (90, 90)], [], [], .mq (.ci 3 (.ci 90 .nil))⟩ ?_
  rintro n st ⟨k, o1, hk, ho1, rfl, rfl⟩
  (refine gGo ?_; intros)
  refine boolRes_split (fun hb => ?_) (fun hb => ?_) <;> conv => whnf
  · have hkl : k < l.length := by omega
    have hg := tblRows_get hkl
    have hak := hal _ (List.getElem_mem hkl)
    have hck := hcols _ (List.getElem_mem hkl)
    have hgd : l.getD k Table.zero = l[k] := by simp [hkl]
    generalize ha : l[k] = a at *
    (refine gGo ?_; intros)
    refine rowAt_of (by simpa using hg) ?_
    conv => whnf
    have hb1 := edgeL_len hcols hl (show k ≤ l.length by omega)
    rw [← ho1] at hb1
    (refine gGo ?_; intros)
    refine W.loopG (fun n st => ∃ (i : Nat) (out : List (List Int)), i ≤ a.cols.length ∧ out = o1 ++ edgeA l k i ∧ n = a.cols.length - i ∧ st = ⟨[(0, .sl (tblRows l) false), (3, .bp 3 0), (6, .osl 90 0 0 (relRows out).length (relRows out).length), (28, .sl (tblRows l) false), (29, .int .i64 (tblRows l).length), (30, .int .i64 k), (7, .int .i64 k), (8, .bp 8 0), (36, .sl (colRows a.cols) false), (37, .int .i64 (colRows a.cols).length), (38, .int .i64 i)], [(3, [.rows 4 [fracV 0 1] none]), (90, [.rows 11 (relRows out) (some [])]), (8, [.rows 3 [a.row] none])], [3, 90, 8]⟩)
      a.cols.length _ ⟨0, o1, by omega, by simp [edgeA], by omega, rfl⟩ ⟨[(3, 3), (90, 90), (8, 8)], [], [], .mq (.ci 3 (.ci 90 (.ci 8 .nil)))⟩ ?_
    rintro n st ⟨i, o2, hi, ho2, rfl, rfl⟩
    have hal2 := colRows_len a.cols
    (refine gGo ?_; intros)
    refine boolRes_split (fun hb => ?_) (fun hb => ?_) <;> conv => whnf
    · have hil : i < a.cols.length := by omega
      have hb2 : o2.length ≤ 100 * 409600 + 64 * 6400 := by
        have := edgeA_len hcols hl k i
        rw [ho2, List.length_append]; omega
      obtain ⟨bs, hbs⟩ : ∃ bs, bs = l.drop (k + 1) := ⟨_, rfl⟩
      have hbl : bs.length = l.length - (k + 1) := by rw [hbs, List.length_drop]
      have hbm : ∀ b ∈ bs, b ∈ l := fun b hb => by rw [hbs] at hb; exact List.mem_of_mem_drop hb
      have hbt := tblRows_len bs
      have hdr : ((tblRows l).take ((tblRows l).length : Int).toNat).drop (((k : Int) + 1).toNat) = tblRows bs := by
        rw [Int.toNat_natCast, List.take_length, show ((k : Int) + 1).toNat = k + 1 by omega, hbs]
        unfold tblRows
        rw [List.map_drop]
      (refine gGo ?_; intros)
      refine ⟨tblRows_sz l, ?_⟩
      conv => whnf
      rw [hdr]
      (refine gGo ?_; intros)
      refine W.loopG (fun n st => ∃ (m : Nat) (out : List (List Int)), m ≤ bs.length ∧ out = o2 ++ edgeR a i (bs.take m) ∧ n = bs.length - m ∧ st = ⟨[(0, .sl (tblRows l) false), (3, .bp 3 0), (6, .osl 90 0 0 (relRows out).length (relRows out).length), (28, .sl (tblRows l) false), (29, .int .i64 (tblRows l).length), (30, .int .i64 k), (7, .int .i64 k), (8, .bp 8 0), (36, .sl (colRows a.cols) false), (37, .int .i64 (colRows a.cols).length), (38, .int .i64 i), (9, .int .i64 i), (44, .sl (tblRows bs) false), (45, .int .i64 (tblRows bs).length), (46, .int .i64 m)], [(3, [.rows 4 [fracV 0 1] none]), (90, [.rows 11 (relRows out) (some [])]), (8, [.rows 3 [a.row] none])], [3, 90, 8]⟩)
        bs.length _ ⟨0, o2, by omega, by simp [edgeR], by omega, rfl⟩ ⟨[(3, 3), (90, 90), (8, 8)], [], [], .mq (.ci 3 (.ci 90 (.ci 8 .nil)))⟩ ?_
      rintro n st ⟨m, o3, hm, ho3, rfl, rfl⟩
      (refine gGo ?_; intros)
      refine boolRes_split (fun hb => ?_) (fun hb => ?_) <;> conv => whnf
      · have hml : m < bs.length := by omega
        have hgm := tblRows_get hml
        have hbk := hal _ (hbm _ (List.getElem_mem hml))
        have hcb := hcols _ (hbm _ (List.getElem_mem hml))
        have hb3 : o3.length ≤ 100 * 409600 + 64 * 6400 + 100 * 64 := by
          have := edgeR_len a i (bs := bs.take m) (fun b hb => hcols _ (hbm _ (List.mem_of_mem_take hb)))
          rw [List.length_take] at this
          rw [ho3, List.length_append]; omega
        have htk : bs.take (m + 1) = bs.take m ++ [bs[m]] := List.take_succ_eq_append_getElem hml
        generalize bs[m] = b at *
        have hbl2 := colRows_len b.cols
        (refine gGo ?_; intros)
        refine rowAt_of (by simpa using hgm) ?_
        conv => whnf
        (refine gGo ?_; intros)
        refine W.loopG (fun n st => ∃ (j : Nat) (out : List (List Int)), j ≤ b.cols.length ∧ out = o3 ++ edgeB a i b j ∧ n = b.cols.length - j ∧ st = ⟨[(0, .sl (tblRows l) false), (3, .bp 3 0), (6, .osl 90 0 0 (relRows out).length (relRows out).length), (28, .sl (tblRows l) false), (29, .int .i64 (tblRows l).length), (30, .int .i64 k), (7, .int .i64 k), (8, .bp 8 0), (36, .sl (colRows a.cols) false), (37, .int .i64 (colRows a.cols).length), (38, .int .i64 i), (9, .int .i64 i), (44, .sl (tblRows bs) false), (45, .int .i64 (tblRows bs).length), (46, .int .i64 m), (11, .bp 11 0), (51, .sl (colRows b.cols) false), (52, .int .i64 (colRows b.cols).length), (53, .int .i64 j)], [(3, [.rows 4 [fracV 0 1] none]), (90, [.rows 11 (relRows out) (some [])]), (8, [.rows 3 [a.row] none]), (11, [.rows 3 [b.row] none])], [3, 90, 8, 11]⟩)
          b.cols.length _ ⟨0, o3, by omega, by simp [edgeB], by omega, rfl⟩ ⟨[(3, 3), (90, 90), (8, 8), (11, 11)], [], [], .mq (.ci 3 (.ci 90 (.ci 8 (.ci 11 .nil))))⟩ ?_
        rintro n st ⟨j, out, hj, hout, rfl, rfl⟩
        have hrl := relRows_len out
        (refine gGo ?_; intros)
        refine boolRes_split (fun hb => ?_) (fun hb => ?_) <;> conv => whnf
        · have hjl : j < b.cols.length := by omega
          have hb4 : out.length ≤ 100 * 409600 + 64 * 6400 + 100 * 64 + 64 := by
            have := edgeB_len a i b j
            rw [hout, List.length_append]; omega
          have spO := of29_spec a i b j
          obtain ⟨x, y, r6, r7, r8, r9, r10, hof, hx, hy⟩ := of29_form hak hbk hil hjl
          have hnx : edgeB a i b (j + 1) = edgeB a i b j ++ edgeC a i b j := range_flat _ _
          have hC : edgeC a i b j = if 0 < (x : Int) then [[a.id, (i : Int), b.id, (j : Int), (x : Int), (y : Int), r6, r7, r8, r9, r10]] else [] := by
            unfold edgeC
            rw [hof]; rfl
          rw [hof] at spO
          by_cases hx0 : x = 0
          · subst hx0
            rw [if_neg (by decide)] at hC
            (refine gGo ?_; intros)
            (refine gPC (spO) ?_; conv => whnf)
            (refine gGo ?_; intros)
            refine ⟨_, _, ?_, ⟨j + 1, out, by omega, (by rw [hout, hnx, hC, List.append_nil]), rfl, rfl⟩, ⟨[(3, 3), (90, 90), (8, 8), (11, 11)], [], [], .mq (.ci 3 (.ci 90 (.ci 8 (.ci 11 .nil))))⟩⟩
            omega
          · rw [if_pos (by omega)] at hC
            have spC := contained_spec a.id i b.id j r6 r7 r8 r9 r10 x y hx0 hx hy
            have spL := less23_spec (partF x (x + y)).1 (partF x (x + y)).2 (partF_ok (by omega) (by omega) (by omega))
            generalize (partF x (x + y)).1 = p2 at *
            generalize (partF x (x + y)).2 = q2 at *
            (refine gGo ?_; intros)
            (refine gPC (spO) ?_; conv => whnf)
            (refine gGo ?_; intros)
            (refine gPC (spC) ?_; conv => whnf)
            (refine gGo ?_; intros)
            (refine gPC (spL) ?_; conv => whnf)
            (refine gGo ?_; intros)
            refine ⟨⟨rowsSz_cons rfl rowsSz_nil, rfl⟩, fitsN (n := (relRows out).length + 1) (b := 88) (by omega) (by omega), .inl ⟨rfl, rfl, ?_⟩⟩
            conv => whnf
            (refine gGo ?_; intros)
            refine ⟨_, _, ?_, ⟨j + 1, out ++ [[a.id, (i : Int), b.id, (j : Int), (x : Int), (y : Int), r6, r7, r8, r9, r10]], by omega, (by rw [hout, hnx, hC, List.append_assoc]), rfl, rfl⟩, [(3, 3), (90, 90), (8, 8), (11, 11)], [], [], ?_⟩
            · omega
            · rw [relRows_snoc, List.length_append]
              exact LeG.mq (.ci 3 (.ci 90 (.ci 8 (.ci 11 .nil))))
        · have hje : j = b.cols.length := by omega
          subst hje
          (refine gGo ?_; intros)
          refine ⟨_, _, ?_, ⟨m + 1, out, by omega, (by rw [hout, ho3, htk, edgeR_snoc, List.append_assoc]), rfl, rfl⟩, ⟨[(3, 3), (90, 90), (8, 8)], [], [], .mq (.ci 3 (.ci 90 (.ci 8 .nil)))⟩⟩
          omega
      · have hme : m = bs.length := by omega
        subst hme
        (refine gGo ?_; intros)
        refine ⟨_, _, ?_, ⟨i + 1, o3, by omega, (by rw [ho3, List.take_length, ho2, List.append_assoc, edgeA_succ, hgd, ← hbs]), rfl, rfl⟩, ⟨[(3, 3), (90, 90), (8, 8)], [], [], .mq (.ci 3 (.ci 90 (.ci 8 .nil)))⟩⟩
        omega
    · have hie : i = a.cols.length := by omega
      subst hie
      (refine gGo ?_; intros)
      refine ⟨_, _, ?_, ⟨k + 1, o2, by omega, (by rw [ho2, ho1, edgeL_succ, hgd]), rfl, rfl⟩, ⟨[(3, 3), (90, 90)], [], [], .mq (.ci 3 (.ci 90 .nil))⟩⟩
      omega
  · have hke : k = l.length := by omega
    subst hke
    rw [show edges l = o1 from ho1.symm]
    (refine gGo ?_; intros)
    refine W.leG (mp := []) (bo := [90]) (st' := ⟨[(4, .sl (relRows o1) false), (5, .int .i64 0)], [], []⟩)
      (LeG.mk' rfl rfl rfl ⟨⟨_, Lent.whole rfl rfl rfl rfl (.inl rfl), rfl⟩, ⟨_, .refl _, rfl⟩, trivial⟩ .nil rfl rfl (by rw [hK]; rfl)) ?_
    (refine gM ?_; conv => whnf)
    exact ret0 rfl rfl rfl
end Go.Sx.Sp
namespace Go.Sx.Sp
open Go Go.Sx Go.Proofs
attribute [local irreducible] GoodW famL
def turnL (r : List Int) : List Int := [r.getD 2 0, r.getD 3 0, r.getD 0 0, r.getD 1 0, r.getD 4 0, r.getD 6 0, r.getD 5 0, r.getD 8 0, r.getD 7 0, r.getD 10 0, r.getD 9 0]
def fromC (t : Int) (r : List Int) : List (List Int) := if r.getD 0 0 = t then [r] else if r.getD 2 0 = t then [turnL r] else []
def fromL (E : List (List Int)) (t : Int) : List (List Int) := E.flatMap (fromC t)
def Rel11 (r : List Int) : Prop := r.length = 11
theorem rel11 {r : List Int} (h : Rel11 r) : ∃ r0 r1 r2 r3 r4 r5 r6 r7 r8 r9 r10, r = [r0, r1, r2, r3, r4, r5, r6, r7, r8, r9, r10] := by
  match r, h with
  | [r0, r1, r2, r3, r4, r5, r6, r7, r8, r9, r10], _ => exact ⟨_, _, _, _, _, _, _, _, _, _, _, rfl⟩
theorem of29_11 (a : Table) (i : Int) (b : Table) (j : Int) : Rel11 (of29E a i b j).1 := by
  unfold of29E
  split
  · rfl
  · split
    · rfl
    · rfl
theorem edges_11 (l : List Table) : ∀ r ∈ edges l, Rel11 r := by
  intro r hr
  unfold edges edgeL edgeA edgeR edgeB at hr
  simp only [List.mem_flatMap] at hr
  obtain ⟨k, _, i, _, b, _, j, _, h⟩ := hr
  unfold edgeC at h
  split at h
  · rw [List.mem_singleton.1 h]; exact of29_11 _ _ _ _
  · cases h
theorem from_11 {E : List (List Int)} (h : ∀ r ∈ E, Rel11 r) (t : Int) : ∀ r ∈ fromL E t, Rel11 r := by
  intro r hr
  unfold fromL at hr
  rw [List.mem_flatMap] at hr
  obtain ⟨q, hq, h1⟩ := hr
  unfold fromC at h1
  split at h1
  · rw [List.mem_singleton.1 h1]; exact h q hq
  · split at h1
    · rw [List.mem_singleton.1 h1]; rfl
    · cases h1
theorem fromC_len (t : Int) (r : List Int) : (fromC t r).length ≤ 1 := by
  unfold fromC; split; simp; split <;> simp
theorem from_len (E : List (List Int)) (t : Int) : (fromL E t).length ≤ E.length := by
  have := flat_le (fromC t) 1 E fun r _ => fromC_len t r
  unfold fromL; omega
theorem relRows_get {l : List (List Int)} {i : Nat} (h : i < l.length) : (relRows l)[i]? = some (intsV l[i]) := by simp [relRows, h]
theorem edges_spec (l : List Table) (hv : listB l = true) (hl : l.length ≤ 100) : Spec Tryz.prog 32 [.sl (tblRows l) false] [] (.sl (relRows (edges l)) false) [] := by
  have sp1 := zero23_spec
  have sp2 := build_spec l hv hl
  refine gEn env Tryz.func32 fun Γ hN hK hML => ?_
  (refine gGo ?_; intros)
  (refine gPC (sp1) ?_; conv => whnf)
  (refine gGo ?_; intros)
  (refine gPC (sp2) ?_; conv => whnf)
  (refine gGr ?_; intros)
  exact ret0 rfl rfl rfl
set_option maxHeartbeats 8000000 in
theorem from_spec (E : List (List Int)) (t : Int) (h : ∀ r ∈ E, Rel11 r) (hE : E.length ≤ 100000000) : Spec Tryz.prog 45 [.sl (relRows E) false, .int .i64 t] [] (.sl (relRows (fromL E t)) false) [] := by
  have hel := relRows_len E
  refine gEn env Tryz.func45 fun Γ hN hK hML => ?_
  (refine gGo ?_; intros)
  refine W.ownNil 5 90 11 rfl rfl ?_
  refine W.loopG (fun n st => ∃ (k : Nat) (out : List (List Int)), k ≤ E.length ∧ out = fromL (E.take k) t ∧ n = E.length - k ∧ st = ⟨[(1, .int .i64 t), (5, .osl 90 0 0 (relRows out).length (relRows out).length), (8, .sl (relRows E) false), (9, .int .i64 (relRows E).length), (10, .int .i64 k)], [(90, [.rows 11 (relRows out) (some [])])], [90]⟩)
    E.length _ ⟨0, [], by omega, rfl, by omega, rfl⟩ ⟨[(90, 90)], [], [], .mq (.ci 90 .nil)⟩ ?_
  rintro n st ⟨k, out, hk, hout, rfl, rfl⟩
  have hol := relRows_len out
  (refine gGo ?_; intros)
  refine boolRes_split (fun hb => ?_) (fun hb => ?_) <;> conv => whnf
  · have hkl : k < E.length := by omega
    have hg := relRows_get hkl
    have h11 := h _ (List.getElem_mem hkl)
    have hb1 : out.length ≤ k := by
      have := from_len (E.take k) t
      rw [List.length_take] at this
      rw [hout]; omega
    have hnx : fromL (E.take (k + 1)) t = fromL (E.take k) t ++ fromC t E[k] := by
      unfold fromL
      rw [List.take_succ_eq_append_getElem hkl, List.flatMap_append, List.flatMap_cons, List.flatMap_nil, List.append_nil]
    generalize E[k] = r at *
    obtain ⟨r0, r1, r2, r3, r4, r5, r6, r7, r8, r9, r10, rfl⟩ := rel11 h11
    have hC : fromC t [r0, r1, r2, r3, r4, r5, r6, r7, r8, r9, r10] = if r0 = t then [[r0, r1, r2, r3, r4, r5, r6, r7, r8, r9, r10]] else if r2 = t then [[r2, r3, r0, r1, r4, r6, r5, r8, r7, r10, r9]] else [] := rfl
    (refine gGo ?_; intros)
    refine rowAt_of (by simpa using hg) ?_
    conv => whnf
    (refine gGo ?_; intros)
    refine boolRes_split (fun hb => ?_) (fun hb => ?_) <;> conv => whnf
    · rw [if_pos hb] at hC
      (refine gGo ?_; intros)
      refine ⟨⟨rowsSz_cons rfl rowsSz_nil, rfl⟩, fitsN (n := (relRows out).length + 1) (b := 88) (by omega) (by omega), .inl ⟨rfl, rfl, ?_⟩⟩
      conv => whnf
      (refine gGo ?_; intros)
      refine ⟨_, _, ?_, ⟨k + 1, out ++ [[r0, r1, r2, r3, r4, r5, r6, r7, r8, r9, r10]], by omega, (by rw [hout, hnx, hC]), rfl, rfl⟩, [(90, 90)], [], [], ?_⟩
      · omega
      · rw [relRows_snoc, List.length_append]
        exact LeG.mq (.ci 90 .nil)
    · rw [if_neg hb] at hC
      (refine gGo ?_; intros)
      refine boolRes_split (fun hb => ?_) (fun hb => ?_) <;> conv => whnf
      · rw [if_pos hb] at hC
        have spT := turn29_spec r0 r1 r2 r3 r4 r5 r6 r7 r8 r9 r10
        (refine gGo ?_; intros)
        (refine gPC (spT) ?_; conv => whnf)
        (refine gGo ?_; intros)
        refine ⟨⟨rowsSz_cons rfl rowsSz_nil, rfl⟩, fitsN (n := (relRows out).length + 1) (b := 88) (by omega) (by omega), .inl ⟨rfl, rfl, ?_⟩⟩
        conv => whnf
        (refine gGo ?_; intros)
        refine ⟨_, _, ?_, ⟨k + 1, out ++ [[r2, r3, r0, r1, r4, r6, r5, r8, r7, r10, r9]], by omega, (by rw [hout, hnx, hC]), rfl, rfl⟩, [(90, 90)], [], [], ?_⟩
        · omega
        · rw [relRows_snoc, List.length_append]
          exact LeG.mq (.ci 90 .nil)
      · rw [if_neg hb] at hC
        (refine gGo ?_; intros)
        refine ⟨_, _, ?_, ⟨k + 1, out, by omega, (by rw [hout, hnx, hC, List.append_nil]), rfl, rfl⟩, ⟨[(90, 90)], [], [], .mq (.ci 90 .nil)⟩⟩
        omega
  · have hke : k = E.length := by omega
    subst hke
    rw [List.take_length] at hout
    rw [← hout]
    (refine gGo ?_; intros)
    refine W.leG (mp := []) (bo := [90]) (st' := ⟨[(4, .sl (relRows out) false)], [], []⟩)
      (LeG.mk' rfl rfl rfl ⟨⟨_, Lent.whole rfl rfl rfl rfl (.inl rfl), rfl⟩, trivial⟩ .nil rfl rfl (by rw [hK]; rfl)) ?_
    (refine gM ?_; conv => whnf)
    exact ret0 rfl rfl rfl
end Go.Sx.Sp
namespace Go.Sx.Sp
open Go Go.Sx Go.Proofs
attribute [local irreducible] GoodW famL
structure PS where
  tabs : List Int
  steps : List Stp
  q : Nat
def stpOf (r : List Int) : Stp := ⟨r.getD 0 0, r.getD 1 0, r.getD 2 0, r.getD 3 0⟩
def pathAdd (s : PS) (r : List Int) (q : Nat) : PS := ⟨s.tabs ++ [r.getD 2 0], s.steps ++ [stpOf r], q⟩
def pathE (t : List Int) (E : List (List Int)) (s : PS) : List (List Int) := fromL E (s.tabs.getD (nextV t s.q s.tabs.length).toNat 0)
def pathR (t : List Int) (E : List (List Int)) (s : PS) : List Int := (pathE t E s).getD (nextV t (nextP t s.q) (pathE t E s).length).toNat []
def pathStep (t : List Int) (E : List (List Int)) (s : PS) : PS :=
  if (pathE t E s).length = 0 then ⟨s.tabs, s.steps, nextP t s.q⟩
  else if (pathR t E s).getD 2 0 ∈ s.tabs then
    (if nextV t (nextP t (nextP t s.q)) 20 = 1 then pathAdd s (pathR t E s) (nextP t (nextP t (nextP t s.q))) else ⟨s.tabs, s.steps, nextP t (nextP t (nextP t s.q))⟩)
  else pathAdd s (pathR t E s) (nextP t (nextP t s.q))
def pathGo (t : List Int) (E : List (List Int)) : Nat → PS → PS
  | 0, s => s
  | n + 1, s => pathGo t E n (pathStep t E s)
def pathF (t : List Int) (l : List Table) (q : Nat) : Pth × Nat :=
  let start := (l.getD (nextV t q l.length).toNat Table.zero).id
  let s := pathGo t (edges l) (nextV t (nextP t q) 4).toNat ⟨[start], [], nextP t (nextP t q)⟩
  (⟨start, s.steps⟩, s.q)
theorem pathStep_q {t : List Int} {E : List (List Int)} {s : PS} (h : s.q ≤ t.length) : (pathStep t E s).q ≤ t.length := by
  have h1 := nextP_le h
  have h2 := nextP_le h1
  have h3 := nextP_le h2
  unfold pathStep pathAdd
  split
  · exact h1
  · split
    · split
      · exact h3
      · exact h3
    · exact h2
theorem ints_pure (k : IntKind) (l : List Int) : ∀ r ∈ intRows k l, ∀ v ∈ r, v.sites = [] := by
  intro r hr v hv
  obtain ⟨x, _, rfl⟩ := List.mem_map.1 hr
  rw [List.mem_singleton.1 hv]; rfl
set_option maxHeartbeats 32000000 in
theorem path_spec (t : List Int) (l : List Table) (q : Nat) (hv : listB l = true) (hl : l.length ≤ 100) (hl0 : 0 < l.length) (hq : q ≤ t.length) : Spec Tryz.prog 15 [.bp 0 0, .sl (tblRows l) false] [(0, diceB t q)] (.agg (pathF t l q).1.row) [(0, diceB t (pathF t l q).2)] := by
  have htl := tblRows_len l
  have hq1 := nextP_le hq
  have hq2 := nextP_le hq1
  have s1 := next_spec t q (tblRows l).length (by omega) hq
  have r1 := nextV_range t q (n := (l.length : Int)) (by omega)
  have s2 := next_spec t (nextP t q) 4 (by omega) hq1
  have r2 := nextV_range t (nextP t q) (n := 4) (by omega)
  have sE := edges_spec l hv hl
  have h11 := edges_11 l
  have hEl : (edges l).length ≤ 40960000 := by
    have hcols : ∀ b ∈ l, b.cols.length ≤ 64 := fun b hb => by
      have := listB_valid hv b hb
      unfold validB headB at this
      simp only [Bool.and_eq_true, decide_eq_true_eq] at this
      exact this.1.1.2
    have := edgeL_len hcols hl (Nat.le_refl _)
    unfold edges; omega
  have hF : pathF t l q = (⟨(l.getD (nextV t q l.length).toNat Table.zero).id, (pathGo t (edges l) (nextV t (nextP t q) 4).toNat ⟨[(l.getD (nextV t q l.length).toNat Table.zero).id], [], nextP t (nextP t q)⟩).steps⟩, (pathGo t (edges l) (nextV t (nextP t q) 4).toNat ⟨[(l.getD (nextV t q l.length).toNat Table.zero).id], [], nextP t (nextP t q)⟩).q) := rfl
  rw [hF]
  clear hF
  rw [htl] at s1
  obtain ⟨i, hi⟩ := Int.eq_ofNat_of_zero_le r1.1
  obtain ⟨K, hK2⟩ := Int.eq_ofNat_of_zero_le r2.1
  rw [hi] at r1 s1 ⊢
  rw [hK2] at r2 s2 ⊢
  rw [Int.toNat_natCast, Int.toNat_natCast]
  have hil : i < l.length := by omega
  have hg := tblRows_get hil
  have hgd : l.getD i Table.zero = l[i] := by simp [hil]
  rw [hgd]
  generalize l[i] = x at *
  generalize edges l = E at *
  generalize nextP t (nextP t q) = q2 at *
  generalize nextP t q = q1 at *
  rw [← htl] at s1
  refine gEn env Tryz.func15 fun Γ hN hK hML => ?_
  (refine gGo ?_; intros)
  (refine gCA [(0, 0)] [] [] (s1) ?_; conv => whnf)
  (refine gGo ?_; intros)
  refine rowAt_of (by simpa using hg) ?_
  conv => whnf
  (refine gGl ?_; intros)
  refine Or.inl ?_
  conv => whnf
  (refine gGo ?_; intros)
  (refine gPC (sE) ?_; conv => whnf)
  (refine gGo ?_; intros)
  (refine gCA [(0, 0)] [] [] (s2) ?_; conv => whnf)
  (refine gGo ?_; intros)
  refine W.ownCell 5 0 1 91 4 rfl rfl rfl rfl rfl ?_
  refine W.leG (mp := [(0, 0), (4, 4), (5, 5), (25, 25), (91, 91)]) (bo := []) (st' := ⟨[(0, .bp 0 0), (4, .bp 4 0), (5, .bp 5 0), (6, .osl 25 0 0 1 1), (7, .sl (relRows E) false), (8, .int .i64 K)], [(0, [diceB t q2]), (4, [.rows 2 [[.int .i64 0, .nils]] none]), (5, [.rows 2 [[.int .i64 x.id, .osl 91 0 0 0 0]] none]), (25, [.rows 1 (intRows .i64 [x.id]) (some [])]), (91, [.rows 4 [] (some [])])], [0, 4, 5, 25, 91]⟩)
    (LeG.mq (.ci 0 (.ci 4 (.ci 5 (.cons 25 (b1 := .rows 1 (intRows .i64 [x.id]) (some [])) rfl rfl (.pure _ _ _ (ints_pure .i64 [x.id])) rfl (.ci 91 .nil)))))) ?_
  generalize x.id = start at *
  refine W.loopG (fun n st => ∃ (k : Nat) (s : PS), k ≤ K ∧ s.q ≤ t.length ∧ s.tabs ≠ [] ∧ s.tabs.length + k ≤ K + 1 ∧ s.steps.length + k ≤ K ∧ pathGo t E K ⟨[start], [], q2⟩ = pathGo t E k s ∧ n = k ∧ st = ⟨[(0, .bp 0 0), (4, .bp 4 0), (5, .bp 5 0), (6, .osl 25 0 0 (intRows .i64 s.tabs).length (intRows .i64 s.tabs).length), (7, .sl (relRows E) false), (8, .int .i64 k)], [(0, [diceB t (s.q)]), (4, [.rows 2 [[.int .i64 0, .nils]] none]), (5, [.rows 2 [[.int .i64 start, .osl 91 0 0 (stpRows s.steps).length (stpRows s.steps).length]] none]), (25, [.rows 1 (intRows .i64 s.tabs) (some [])]), (91, [.rows 4 (stpRows s.steps) (some [])])], [0, 4, 5, 25, 91]⟩)
    K _ ⟨K, ⟨[start], [], q2⟩, by omega, hq2, by simp, (by show 1 + K ≤ K + 1; omega), (by show 0 + K ≤ K; omega), rfl, rfl, rfl⟩ ⟨[(0, 0), (4, 4), (5, 5), (25, 25), (91, 91)], [], [], .mq (.ci 0 (.ci 4 (.ci 5 (.ci 25 (.ci 91 .nil)))))⟩ ?_
  rintro n st ⟨k, s, hk, hsq, hne, htl2, hsl, hgo, rfl, rfl⟩
  (refine gGo ?_; intros)
  refine boolRes_split (fun hb => ?_) (fun hb => ?_) <;> conv => whnf
  · obtain ⟨m, rfl⟩ : ∃ m, n = m + 1 := ⟨n - 1, by omega⟩
    have hto : 0 < s.tabs.length := List.length_pos_iff.2 hne
    have hti := intRows_len .i64 s.tabs
    have hse := stpRows_len s.steps
    have g1 := nextP_le hsq
    have g2 := nextP_le g1
    have g3 := nextP_le g2
    have n1 := next_spec t s.q s.tabs.length (by omega) hsq
    have v1 := nextV_range t s.q (n := (s.tabs.length : Int)) (by omega)
    have hstep : pathGo t E (m + 1) s = pathGo t E m (pathStep t E s) := rfl
    obtain ⟨i1, hi1⟩ := Int.eq_ofNat_of_zero_le v1.1
    have hPE : pathE t E s = fromL E (s.tabs.getD i1 0) := by unfold pathE; rw [hi1, Int.toNat_natCast]
    rw [hi1] at v1 n1
    rw [← hti] at n1
    have hi1l : i1 < s.tabs.length := by omega
    have hg1 := intRows_get (k := .i64) hi1l
    have hgd1 : s.tabs.getD i1 0 = s.tabs[i1] := by simp [hi1l]
    rw [hgd1] at hPE
    have spF := from_spec E s.tabs[i1] h11 (by omega)
    have hFl := from_len E s.tabs[i1]
    have h11F := from_11 h11 s.tabs[i1]
    rw [← hPE] at spF hFl h11F
    have hPR : pathR t E s = (pathE t E s).getD (nextV t (nextP t s.q) (pathE t E s).length).toNat [] := rfl
    have hpS : pathStep t E s = if (pathE t E s).length = 0 then ⟨s.tabs, s.steps, nextP t s.q⟩ else if (pathR t E s).getD 2 0 ∈ s.tabs then (if nextV t (nextP t (nextP t s.q)) 20 = 1 then pathAdd s (pathR t E s) (nextP t (nextP t (nextP t s.q))) else ⟨s.tabs, s.steps, nextP t (nextP t (nextP t s.q))⟩) else pathAdd s (pathR t E s) (nextP t (nextP t s.q)) := rfl
    generalize pathR t E s = r at *
    generalize pathE t E s = e at *
    have hel := relRows_len e
    generalize s.tabs[i1] = ti at *
    (refine gGo ?_; intros)
    (refine gCA [(0, 0)] [] [] (n1) ?_; conv => whnf)
    (refine gGo ?_; intros)
    refine rowAt_of (r := [.int .i64 ti]) (by rw [Nat.zero_add, Int.toNat_natCast]; exact hg1) ?_
    conv => whnf
    (refine gGo ?_; intros)
    (refine gPC (spF) ?_; conv => whnf)
    (refine gGs ?_; intros)
    refine W.leG (mp := [(0, 0), (4, 4), (5, 5), (25, 25), (91, 91)]) (bo := []) (st' := ⟨[(0, .bp 0 0), (4, .bp 4 0), (5, .bp 5 0), (6, .osl 25 0 0 (intRows .i64 s.tabs).length (intRows .i64 s.tabs).length), (7, .sl (relRows E) false), (8, .int .i64 ((m + 1 : Nat) : Int)), (9, .sl (relRows e) false)], [(0, [diceB t (nextP t s.q)]), (4, [.rows 2 [[.int .i64 0, .nils]] none]), (5, [.rows 2 [[.int .i64 start, .osl 91 0 0 (stpRows s.steps).length (stpRows s.steps).length]] none]), (25, [.rows 1 (intRows .i64 s.tabs) (some [])]), (91, [.rows 4 (stpRows s.steps) (some [])])], [0, 4, 5, 25, 91]⟩)
      (LeG.mq (.ci 0 (.ci 4 (.ci 5 (.ci 25 (.ci 91 .nil)))))) ?_
    by_cases he0 : e.length = 0
    · rw [if_pos he0] at hpS
      (refine gGo ?_; intros)
      refine ⟨_, _, ?_, ⟨m, ⟨s.tabs, s.steps, nextP t s.q⟩, by omega, g1, hne, (by show s.tabs.length + m ≤ _; omega), (by show s.steps.length + m ≤ _; omega), (by rw [hgo, hstep, hpS]), rfl, rfl⟩, ⟨[(0, 0), (4, 4), (5, 5), (25, 25), (91, 91)], [], [], LeG.mk' rfl rfl rfl (⟨⟨_, .refl _, rfl⟩, ⟨_, .refl _, rfl⟩, ⟨_, .refl _, rfl⟩, ⟨_, .refl _, rfl⟩, ⟨_, .refl _, rfl⟩, ⟨_, .refl _, (by show V.int .i64 (((m + 1 : Nat) : Int) - 1) = _; congr 1; omega)⟩, trivial⟩) (.ci 0 (.ci 4 (.ci 5 (.ci 25 (.ci 91 .nil))))) rfl rfl (by rw [hK]; rfl)⟩⟩
      omega
    · rw [if_neg he0] at hpS
      have n2 := next_spec t (nextP t s.q) e.length (by omega) g1
      have v2 := nextV_range t (nextP t s.q) (n := (e.length : Int)) (by omega)
      obtain ⟨i2, hi2⟩ := Int.eq_ofNat_of_zero_le v2.1
      rw [hi2] at v2 n2 hPR
      rw [← hel] at n2
      rw [Int.toNat_natCast] at hPR
      have hi2l : i2 < e.length := by omega
      have hg2 := relRows_get hi2l
      have hgd2 : e.getD i2 [] = e[i2] := by simp [hi2l]
      rw [hgd2] at hPR
      have hr11 := h11F _ (List.getElem_mem hi2l)
      rw [← hPR] at hg2 hr11
      clear hPR hgd2
      obtain ⟨r0, r1, r2, r3, r4, r5, r6, r7, r8, r9, r10, rfl⟩ := rel11 hr11
      have hpA : ∀ q, pathAdd s [r0, r1, r2, r3, r4, r5, r6, r7, r8, r9, r10] q = ⟨s.tabs ++ [r2], s.steps ++ [Stp.mk r0 r1 r2 r3], q⟩ := fun q => rfl
      rw [hpA, hpA, show [r0, r1, r2, r3, r4, r5, r6, r7, r8, r9, r10].getD 2 0 = r2 from rfl] at hpS
      generalize nextP t (nextP t s.q) = q3 at *
      generalize nextP t s.q = q1' at *
      (refine gGo ?_; intros)
      (refine gCA [(0, 0)] [] [] (n2) ?_; conv => whnf)
      (refine gGo ?_; intros)
      refine rowAt_of (by simpa using hg2) ?_
      conv => whnf
      (refine gGo ?_; intros)
      refine W.leG (mp := [(0, 0), (4, 4), (5, 5), (25, 25), (91, 91), (10, 10)]) (bo := []) (st' := ⟨[(0, .bp 0 0), (4, .bp 4 0), (5, .bp 5 0), (6, .osl 25 0 0 (intRows .i64 s.tabs).length (intRows .i64 s.tabs).length), (7, .sl (relRows E) false), (8, .int .i64 ((m + 1 : Nat) : Int)), (10, .bp 10 0), (11, .bool false), (53, .osl 25 0 0 (intRows .i64 s.tabs).length (intRows .i64 s.tabs).length), (54, .int .i64 (intRows .i64 s.tabs).length), (55, .int .i64 0)], [(0, [diceB t (q3)]), (4, [.rows 2 [[.int .i64 0, .nils]] none]), (5, [.rows 2 [[.int .i64 start, .osl 91 0 0 (stpRows s.steps).length (stpRows s.steps).length]] none]), (25, [.rows 1 (intRows .i64 s.tabs) (some [])]), (91, [.rows 4 (stpRows s.steps) (some [])]), (10, [.rows 11 [intsV [r0, r1, r2, r3, r4, r5, r6, r7, r8, r9, r10]] none])], [0, 4, 5, 25, 91, 10]⟩)
        (LeG.mq (.ci 0 (.ci 4 (.ci 5 (.ci 25 (.ci 91 (.ci 10 .nil))))))) ?_
      refine W.loopG (fun n st => ∃ j : Nat, j ≤ s.tabs.length ∧ n = s.tabs.length - j ∧ st = ⟨[(0, .bp 0 0), (4, .bp 4 0), (5, .bp 5 0), (6, .osl 25 0 0 (intRows .i64 s.tabs).length (intRows .i64 s.tabs).length), (7, .sl (relRows E) false), (8, .int .i64 ((m + 1 : Nat) : Int)), (10, .bp 10 0), (11, .bool (decide (r2 ∈ s.tabs.take j))), (53, .osl 25 0 0 (intRows .i64 s.tabs).length (intRows .i64 s.tabs).length), (54, .int .i64 (intRows .i64 s.tabs).length), (55, .int .i64 j)], [(0, [diceB t (q3)]), (4, [.rows 2 [[.int .i64 0, .nils]] none]), (5, [.rows 2 [[.int .i64 start, .osl 91 0 0 (stpRows s.steps).length (stpRows s.steps).length]] none]), (25, [.rows 1 (intRows .i64 s.tabs) (some [])]), (91, [.rows 4 (stpRows s.steps) (some [])]), (10, [.rows 11 [intsV [r0, r1, r2, r3, r4, r5, r6, r7, r8, r9, r10]] none])], [0, 4, 5, 25, 91, 10]⟩)
        s.tabs.length _ ⟨0, by omega, by omega, rfl⟩ ⟨[(0, 0), (4, 4), (5, 5), (25, 25), (91, 91), (10, 10)], [], [], .mq (.ci 0 (.ci 4 (.ci 5 (.ci 25 (.ci 91 (.ci 10 .nil))))))⟩ ?_
      rintro n st ⟨j, hj, rfl, rfl⟩
      (refine gGo ?_; intros)
      refine boolRes_split (fun hb => ?_) (fun hb => ?_) <;> conv => whnf
      · have hjl : j < s.tabs.length := by omega
        have hgj := intRows_get (k := .i64) hjl
        have htk : decide (r2 ∈ s.tabs.take (j + 1)) = (decide (r2 ∈ s.tabs.take j) || decide (s.tabs[j] = r2)) := by
          rw [List.take_succ_eq_append_getElem hjl, Bool.eq_iff_iff]
          simp only [decide_eq_true_eq, Bool.or_eq_true, List.mem_append, List.mem_singleton]
          exact ⟨fun h => h.imp id Eq.symm, fun h => h.imp id Eq.symm⟩
        generalize s.tabs[j] = tj at *
        cases hd : decide (r2 ∈ s.tabs.take j) with
        | true =>
          rw [hd, Bool.true_or] at htk
          (refine gGo ?_; intros)
          refine rowAt_of (r := [.int .i64 tj]) (by rw [Nat.zero_add, Int.toNat_natCast]; exact hgj) ?_
          conv => whnf
          (refine gGo ?_; intros)
          refine ⟨_, _, ?_, ⟨j + 1, by omega, rfl, rfl⟩, ?_⟩
          · omega
          · rw [htk]; exact ⟨[(0, 0), (4, 4), (5, 5), (25, 25), (91, 91), (10, 10)], [], [], .mq (.ci 0 (.ci 4 (.ci 5 (.ci 25 (.ci 91 (.ci 10 .nil))))))⟩
        | false =>
          rw [hd, Bool.false_or] at htk
          (refine gGo ?_; intros)
          refine rowAt_of (r := [.int .i64 tj]) (by rw [Nat.zero_add, Int.toNat_natCast]; exact hgj) ?_
          conv => whnf
          (refine gGo ?_; intros)
          refine boolRes_split (fun hb => ?_) (fun hb => ?_) <;> conv => whnf
          · rw [decide_eq_true hb] at htk
            (refine gGo ?_; intros)
            refine ⟨_, _, ?_, ⟨j + 1, by omega, rfl, rfl⟩, ?_⟩
            · omega
            · rw [htk]; exact ⟨[(0, 0), (4, 4), (5, 5), (25, 25), (91, 91), (10, 10)], [], [], .mq (.ci 0 (.ci 4 (.ci 5 (.ci 25 (.ci 91 (.ci 10 .nil))))))⟩
          · rw [decide_eq_false hb] at htk
            (refine gGo ?_; intros)
            refine ⟨_, _, ?_, ⟨j + 1, by omega, rfl, rfl⟩, ?_⟩
            · omega
            · rw [htk]; exact ⟨[(0, 0), (4, 4), (5, 5), (25, 25), (91, 91), (10, 10)], [], [], .mq (.ci 0 (.ci 4 (.ci 5 (.ci 25 (.ci 91 (.ci 10 .nil))))))⟩
      · have hje : j = s.tabs.length := by omega
        subst hje
        rw [List.take_length]
        have hap : intRows .i64 (s.tabs ++ [r2]) = intRows .i64 s.tabs ++ [[.int .i64 r2]] := by simp [intRows]
        have hsp := stpRows_snoc s.steps ⟨r0, r1, r2, r3⟩
        cases htw : decide (r2 ∈ s.tabs) with
        | false =>
          rw [if_neg (of_decide_eq_false htw)] at hpS
          (refine gGo ?_; intros)
          refine ⟨⟨rowsSz_cons rfl rowsSz_nil, rfl⟩, fitsN (n := (stpRows s.steps).length + 1) (b := 32) (by omega) (by omega), .inl ⟨rfl, rfl, ?_⟩⟩
          conv => whnf
          (refine gGo ?_; intros)
          refine ⟨⟨rowsSz_cons rfl rowsSz_nil, rfl⟩, fitsN (n := (intRows .i64 s.tabs).length + 1) (b := 8) (by omega) (by omega), .inl ⟨rfl, rfl, ?_⟩⟩
          conv => whnf
          (refine gGo ?_; intros)
          refine ⟨_, _, ?_, ⟨m, ⟨s.tabs ++ [r2], s.steps ++ [Stp.mk r0 r1 r2 r3], q3⟩, by omega, g2, by simp, (by show (s.tabs ++ [r2]).length + m ≤ _; rw [List.length_append, List.length_singleton]; omega), (by show (s.steps ++ [Stp.mk r0 r1 r2 r3]).length + m ≤ _; rw [List.length_append, List.length_singleton]; omega), (by rw [hgo, hstep, hpS]), rfl, rfl⟩, ?_⟩
          · omega
          · show LeX _ _ (⟨[(0, .bp 0 0), (4, .bp 4 0), (5, .bp 5 0), (6, .osl 25 0 0 (intRows .i64 (s.tabs ++ [r2])).length (intRows .i64 (s.tabs ++ [r2])).length), (7, .sl (relRows E) false), (8, .int .i64 m)], [(0, [diceB t (q3)]), (4, [.rows 2 [[.int .i64 0, .nils]] none]), (5, [.rows 2 [[.int .i64 start, .osl 91 0 0 (stpRows (s.steps ++ [Stp.mk r0 r1 r2 r3])).length (stpRows (s.steps ++ [Stp.mk r0 r1 r2 r3])).length]] none]), (25, [.rows 1 (intRows .i64 (s.tabs ++ [r2])) (some [])]), (91, [.rows 4 (stpRows (s.steps ++ [Stp.mk r0 r1 r2 r3])) (some [])])], [0, 4, 5, 25, 91]⟩)
            rw [hap, hsp, List.length_append, List.length_append]
            exact ⟨[(0, 0), (4, 4), (5, 5), (25, 25), (91, 91)], [], [], LeG.mk' rfl rfl rfl (⟨⟨_, .refl _, rfl⟩, ⟨_, .refl _, rfl⟩, ⟨_, .refl _, rfl⟩, ⟨_, .refl _, rfl⟩, ⟨_, .refl _, rfl⟩, ⟨_, .refl _, (by show V.int .i64 (((m + 1 : Nat) : Int) - 1) = _; congr 1; omega)⟩, trivial⟩) (.ci 0 (.ci 4 (.ci 5 (.ci 25 (.ci 91 .nil))))) rfl rfl (by rw [hK]; rfl)⟩
        | true =>
          rw [if_pos (of_decide_eq_true htw)] at hpS
          have n3 := next_spec t q3 20 (by omega) g2
          (refine gGo ?_; intros)
          (refine gCA [(0, 0)] [] [] (n3) ?_; conv => whnf)
          (refine gGo ?_; intros)
          refine boolRes_split (fun hb => ?_) (fun hb => ?_) <;> conv => whnf
          · rw [if_neg hb] at hpS
            (refine gGo ?_; intros)
            refine ⟨_, _, ?_, ⟨m, ⟨s.tabs, s.steps, nextP t q3⟩, by omega, g3, hne, (by show s.tabs.length + m ≤ _; omega), (by show s.steps.length + m ≤ _; omega), (by rw [hgo, hstep, hpS]), rfl, rfl⟩, ⟨[(0, 0), (4, 4), (5, 5), (25, 25), (91, 91)], [], [], LeG.mk' rfl rfl rfl (⟨⟨_, .refl _, rfl⟩, ⟨_, .refl _, rfl⟩, ⟨_, .refl _, rfl⟩, ⟨_, .refl _, rfl⟩, ⟨_, .refl _, rfl⟩, ⟨_, .refl _, (by show V.int .i64 (((m + 1 : Nat) : Int) - 1) = _; congr 1; omega)⟩, trivial⟩) (.ci 0 (.ci 4 (.ci 5 (.ci 25 (.ci 91 .nil))))) rfl rfl (by rw [hK]; rfl)⟩⟩
            omega
          · rw [if_pos (by omega)] at hpS
            (refine gGo ?_; intros)
            refine ⟨⟨rowsSz_cons rfl rowsSz_nil, rfl⟩, fitsN (n := (stpRows s.steps).length + 1) (b := 32) (by omega) (by omega), .inl ⟨rfl, rfl, ?_⟩⟩
            conv => whnf
            (refine gGo ?_; intros)
            refine ⟨⟨rowsSz_cons rfl rowsSz_nil, rfl⟩, fitsN (n := (intRows .i64 s.tabs).length + 1) (b := 8) (by omega) (by omega), .inl ⟨rfl, rfl, ?_⟩⟩
            conv => whnf
            (refine gGo ?_; intros)
            refine ⟨_, _, ?_, ⟨m, ⟨s.tabs ++ [r2], s.steps ++ [Stp.mk r0 r1 r2 r3], nextP t q3⟩, by omega, g3, by simp, (by show (s.tabs ++ [r2]).length + m ≤ _; rw [List.length_append, List.length_singleton]; omega), (by show (s.steps ++ [Stp.mk r0 r1 r2 r3]).length + m ≤ _; rw [List.length_append, List.length_singleton]; omega), (by rw [hgo, hstep, hpS]), rfl, rfl⟩, ?_⟩
            · omega
            · show LeX _ _ (⟨[(0, .bp 0 0), (4, .bp 4 0), (5, .bp 5 0), (6, .osl 25 0 0 (intRows .i64 (s.tabs ++ [r2])).length (intRows .i64 (s.tabs ++ [r2])).length), (7, .sl (relRows E) false), (8, .int .i64 m)], [(0, [diceB t (nextP t q3)]), (4, [.rows 2 [[.int .i64 0, .nils]] none]), (5, [.rows 2 [[.int .i64 start, .osl 91 0 0 (stpRows (s.steps ++ [Stp.mk r0 r1 r2 r3])).length (stpRows (s.steps ++ [Stp.mk r0 r1 r2 r3])).length]] none]), (25, [.rows 1 (intRows .i64 (s.tabs ++ [r2])) (some [])]), (91, [.rows 4 (stpRows (s.steps ++ [Stp.mk r0 r1 r2 r3])) (some [])])], [0, 4, 5, 25, 91]⟩)
              rw [hap, hsp, List.length_append, List.length_append]
              exact ⟨[(0, 0), (4, 4), (5, 5), (25, 25), (91, 91)], [], [], LeG.mk' rfl rfl rfl (⟨⟨_, .refl _, rfl⟩, ⟨_, .refl _, rfl⟩, ⟨_, .refl _, rfl⟩, ⟨_, .refl _, rfl⟩, ⟨_, .refl _, rfl⟩, ⟨_, .refl _, (by show V.int .i64 (((m + 1 : Nat) : Int) - 1) = _; congr 1; omega)⟩, trivial⟩) (.ci 0 (.ci 4 (.ci 5 (.ci 25 (.ci 91 .nil))))) rfl rfl (by rw [hK]; rfl)⟩
  · have hn0 : n = 0 := by omega
    subst hn0
    have hgo : pathGo t E K ⟨[start], [], q2⟩ = s := hgo
    rw [hgo]
    (refine gGo ?_; intros)
    refine W.leG (mp := [(0, 0), (4, 4)]) (bo := [91]) (st' := ⟨[(4, .bp 4 0)], [(0, [diceB t s.q]), (4, [.rows 2 [Pth.row ⟨start, s.steps⟩] none])], [0, 4]⟩)
      (LeG.mq (.ci 0 (.cons 4 (b1 := .rows 2 [Pth.row ⟨start, s.steps⟩] none) rfl rfl (.rows _ _ _ (by repeat' (first | exact trivial | exact ⟨Lent.refl _, rfl⟩ | exact ⟨Lent.norm _, rfl⟩ | exact ⟨Lent.whole rfl rfl (by first | rfl | exact List.length_append.symm | exact hlenR | simp) rfl (by first | exact .inl rfl | exact .inr rfl), rfl⟩ | apply And.intro))) rfl .nil))) ?_
    (refine gM ?_; conv => whnf)
    exact retH rfl (.refl _) rfl rfl rfl ⟨rfl, rfl, trivial⟩
end Go.Sx.Sp
namespace Go.Sx.Sp
open Go Go.Sx Go.Proofs
attribute [local irreducible] GoodW famL
end Go.Sx.Sp
namespace Go.Sx.Sp
open Go Go.Sx Go.Proofs
attribute [local irreducible] GoodW famL
end Go.Sx.Sp
namespace Go.Sx.Sp
open Go Go.Sx Go.Proofs
attribute [local irreducible] GoodW famL
def tabsM (l : List Table) (p : Pth) : List Table := tabOf l p.start :: p.steps.map fun s => tabOf l s.tt
theorem tabsM_len (l : List Table) (p : Pth) : (tabsM l p).length = p.steps.length + 1 := by simp [tabsM]
theorem tabsM_get (l : List Table) (p : Pth) {i : Nat} (h : i ≤ p.steps.length) : (tabsM l p)[i]? = some (tabN l p i) := by
  cases i with
  | zero => rfl
  | succ q =>
    have hq : q < p.steps.length := by omega
    unfold tabsM tabN nodeAt stpAt
    simp [hq]
set_option maxHeartbeats 8000000 in
theorem tables31_spec (l : List Table) (p : Pth) (hl : p.steps.length ≤ 100) : Spec Tryz.prog 17 [.sl (tblRows l) false, .agg p.row] [] (.sl (tblRows (tabsM l p)) false) [] := by
  have sp1 := find3_spec l p.start
  have hst : (findT l p.start).getD Table.zero = tabOf l p.start := rfl
  rw [hst] at sp1
  generalize (findT l p.start).isSome = b1 at *
  have hsl := stpRows_len p.steps
  have h0 : tblRows [tabOf l p.start] = [(tabOf l p.start).row] := rfl
  refine gEn env Tryz.func17 fun Γ hN hK hML => ?_
  (refine gGo ?_; intros)
  (refine gPC (sp1) ?_; conv => whnf)
  (refine gGl ?_; intros)
  refine Or.inl ?_
  conv => whnf
  (refine gGo ?_; intros)
  refine W.leG (mp := [(3, 3), (20, 20)]) (bo := []) (st' := ⟨[(0, .sl (tblRows l) false), (7, .osl 20 0 0 1 1), (22, .sl (stpRows p.steps) false), (23, .int .i64 (stpRows p.steps).length), (24, .int .i64 0)], [(3, [.rows 2 [p.row] none]), (20, [.rows 3 (tblRows [tabOf l p.start]) (some [])])], [3, 20]⟩)
    (LeG.mq (.ci 3 (.cons 20 (b1 := .rows 3 (tblRows [tabOf l p.start]) (some [])) rfl rfl (.pure _ (tblRows [tabOf l p.start]) _ ?_) rfl .nil))) ?_
  · intro r hr v hv
    rw [h0] at hr
    rw [List.mem_singleton.1 hr] at hv
    simp only [Table.row, List.mem_cons, List.not_mem_nil, or_false] at hv
    rcases hv with rfl | rfl | rfl <;> rfl
  refine W.loopG (fun n st => ∃ (k : Nat) (out : List Table), k ≤ p.steps.length ∧ out = tabOf l p.start :: (p.steps.take k).map (fun s => tabOf l s.tt) ∧ n = p.steps.length - k ∧ st = ⟨[(0, .sl (tblRows l) false), (7, .osl 20 0 0 (tblRows out).length (tblRows out).length), (22, .sl (stpRows p.steps) false), (23, .int .i64 (stpRows p.steps).length), (24, .int .i64 k)], [(3, [.rows 2 [p.row] none]), (20, [.rows 3 (tblRows out) (some [])])], [3, 20]⟩)
    p.steps.length _ ⟨0, [tabOf l p.start], by omega, rfl, by omega, rfl⟩ ⟨[(3, 3), (20, 20)], [], [], .mq (.ci 3 (.ci 20 .nil))⟩ ?_
  rintro n st ⟨k, out, hk, hout, rfl, rfl⟩
  have hol := tblRows_len out
  have hol2 : out.length = k + 1 := by rw [hout, List.length_cons, List.length_map, List.length_take]; omega
  (refine gGo ?_; intros)
  refine boolRes_split (fun hb => ?_) (fun hb => ?_) <;> conv => whnf
  · have hkl : k < p.steps.length := by omega
    have hg := stpRows_get hkl
    have sp2 := find3_spec l p.steps[k].tt
    have hst2 : (findT l p.steps[k].tt).getD Table.zero = tabOf l p.steps[k].tt := rfl
    rw [hst2] at sp2
    generalize (findT l p.steps[k].tt).isSome = b2 at *
    have hnx : tabOf l p.start :: (p.steps.take (k + 1)).map (fun s => tabOf l s.tt) = (tabOf l p.start :: (p.steps.take k).map (fun s => tabOf l s.tt)) ++ [tabOf l p.steps[k].tt] := by
      rw [List.take_succ_eq_append_getElem hkl, List.map_append]; rfl
    generalize p.steps[k] = s at *
    (refine gGo ?_; intros)
    refine rowAt_of (by simpa using hg) ?_
    conv => whnf
    (refine gGo ?_; intros)
    (refine gPC (sp2) ?_; conv => whnf)
    (refine gGo ?_; intros)
    refine ⟨⟨rowsSz_cons rfl rowsSz_nil, rfl⟩, fitsN (n := (tblRows out).length + 1) (b := 48) (by omega) (by omega), .inl ⟨rfl, rfl, ?_⟩⟩
    conv => whnf
    (refine gGo ?_; intros)
    refine ⟨_, _, ?_, ⟨k + 1, out ++ [tabOf l s.tt], by omega, (by rw [hnx, hout]), rfl, rfl⟩, [(3, 3), (20, 20)], [], [], ?_⟩
    · omega
    · have e := tblRows_snoc out (tabOf l s.tt)
      rw [e, List.length_append]
      exact LeG.mq (.ci 3 (.ci 20 .nil))
  · have hke : k = p.steps.length := by omega
    subst hke
    rw [List.take_length] at hout
    rw [show tabsM l p = out from hout.symm]
    (refine gGo ?_; intros)
    refine W.leG (mp := []) (bo := [20]) (st' := ⟨[(4, .sl (tblRows out) false)], [], []⟩)
      (LeG.mk' rfl rfl rfl ⟨⟨_, Lent.whole rfl rfl rfl rfl (.inl rfl), rfl⟩, trivial⟩ .nil rfl rfl (by rw [hK]; rfl)) ?_
    (refine gM ?_; conv => whnf)
    exact ret0 rfl rfl rfl
end Go.Sx.Sp
namespace Go.Sx.Sp
open Go Go.Sx Go.Proofs
attribute [local irreducible] GoodW famL
section
variable (l : List Table) (p : Pth)
def extF (g : List Nat → List (List Nat)) (hv : List Nat) (y : Nat) : List (List Nat) := if stepFits l p (hv.length - 1) (hv.getD (parI p (hv.length - 1)) 0) y = true then g (hv ++ [y]) else []
def extN (g : List Nat → List (List Nat)) (hv : List Nat) (n : Nat) : List (List Nat) := (List.range n).flatMap (extF l p g hv)
def ext : Nat → List Nat → List (List Nat)
  | 0, hv => [hv]
  | k + 1, hv => extN l p (ext k) hv (rowsN (tabN l p hv.length))
def rowsOfP (n : Nat) : List (List Nat) := (List.range n).flatMap fun r => ext l p p.steps.length [r]
def rowsL : List (List Nat) := rowsOfP l p (rowsN (tabN l p 0))
end
def rowRows (L : List (List Nat)) : List (List V) := L.map fun r => [.sl (natRows r) false]
theorem rowRows_len (L : List (List Nat)) : (rowRows L).length = L.length := by simp [rowRows]
theorem rowRows_get {L : List (List Nat)} {i : Nat} (h : i < L.length) : (rowRows L)[i]? = some [.sl (natRows L[i]) false] := by simp [rowRows, h]
theorem rowRows_snoc (a : List (List Nat)) (t : List Nat) : rowRows (a ++ [t]) = rowRows a ++ [[.sl (natRows t) false]] := by simp [rowRows]
theorem natRows_sz (l : List Nat) : rowsSz (natRows l) 1 := by
  unfold rowsSz natRows
  intro r hr
  obtain ⟨c, _, rfl⟩ := List.mem_map.1 hr
  rfl
theorem natRows_pure (l : List Nat) : pureB (natRows l) = true := by
  unfold pureB natRows
  rw [List.all_eq_true]
  intro r hr
  obtain ⟨c, _, rfl⟩ := List.mem_map.1 hr
  rfl
end Go.Sx.Sp
namespace Go.Sx.Sp
open Go Go.Sx Go.Proofs
attribute [local irreducible] GoodW famL
end Go.Sx.Sp
namespace Go.Sx.Sp
open Go Go.Sx Go.Proofs
attribute [local irreducible] GoodW famL
def prodTo : Nat → (Nat → Int) → Int
  | 0, _ => 1
  | n + 1, f => prodTo n f * f n
theorem prodTo_congr {n : Nat} {f g : Nat → Int} (h : ∀ q, q < n → f q = g q) : prodTo n f = prodTo n g := by
  induction n with
  | zero => rfl
  | succ n ih =>
    simp only [prodTo]
    rw [ih fun q hq => h q (by omega), h n (by omega)]
theorem prodTo_mul (n : Nat) (f g : Nat → Int) : prodTo n (fun q => f q * g q) = prodTo n f * prodTo n g := by
  induction n with
  | zero => rfl
  | succ n ih =>
    simp only [prodTo, ih]
    generalize prodTo n f = a
    generalize prodTo n g = b
    rw [Int.mul_assoc, Int.mul_assoc, Int.mul_left_comm b]
theorem prodTo_one (n : Nat) : prodTo n (fun _ => 1) = 1 := by
  induction n with
  | zero => rfl
  | succ n ih => simp only [prodTo, ih, Int.mul_one]
theorem prodTo_at (n j : Nat) (c : Int) (h : j < n) : prodTo n (fun q => if q = j then c else 1) = c := by
  induction n with
  | zero => omega
  | succ n ih =>
    simp only [prodTo]
    by_cases e : j = n
    · subst e
      rw [prodTo_congr (g := fun _ => 1) (fun q hq => if_neg (by omega)), prodTo_one, if_pos rfl, Int.one_mul]
    · rw [ih (by omega), if_neg (fun h => e h.symm), Int.mul_one]
theorem prodTo_foldl (f : Nat → Int) (g : Nat → Bool) : ∀ m, (((List.range m).filter g).map (· + 1)).foldl (fun x k => x * f k) 1 = prodTo m (fun q => if g q = true then f (q + 1) else 1)
  | 0 => rfl
  | m + 1 => by
    have ih := prodTo_foldl f g m
    rw [List.range_succ, List.filter_append, List.map_append, List.foldl_append, ih]
    simp only [prodTo]
    cases hg : g m with
    | true => simp [hg]
    | false => simp [hg]
section
variable {l : List Table} {p : Pth}
theorem cntI_prod {i r : Nat} (hi : i ≤ p.steps.length) (hr : r < rowsN (tabN l p i)) : cntI l p i r = prodTo p.steps.length (fun q => if parI p q = i then fitS l p (q + 1) (cellT (tabN l p i) (frN l p (q + 1)) r) else 1) := by
  rw [cntI_eq hi hr]
  unfold kidsL
  rw [prodTo_foldl (fun k => fitS l p k (cellT (tabN l p i) (frN l p k) r)) (fun q => decide (parI p q = i))]
  exact prodTo_congr fun q _ => by simp
variable (l p) in
end
def facS (l : List Table) (p : Pth) (hv : List Nat) (q : Nat) : Int := fitS l p (q + 1) (cellT (tabN l p (parI p q)) (frN l p (q + 1)) (hv.getD (parI p q) 0))
def wgt (l : List Table) (p : Pth) (j : Nat) (hv : List Nat) : Int := prodTo p.steps.length (fun q => if j ≤ q ∧ parI p q ≤ j then facS l p hv q else 1)
section
variable {l : List Table} {p : Pth}
theorem wgt_end {hv : List Nat} : wgt l p p.steps.length hv = 1 := by
  unfold wgt
  rw [prodTo_congr (g := fun _ => 1) (fun q hq => if_neg (by omega)), prodTo_one]
theorem getD_app {hv : List Nat} {y i : Nat} (h : i < hv.length) : (hv ++ [y]).getD i 0 = hv.getD i 0 := by
  rw [List.getD_eq_getElem?_getD, List.getD_eq_getElem?_getD, List.getElem?_append_left h]
theorem getD_last {hv : List Nat} {y : Nat} : (hv ++ [y]).getD hv.length 0 = y := by
  rw [List.getD_eq_getElem?_getD, List.getElem?_append_right (Nat.le_refl _), Nat.sub_self]; rfl
theorem wgt_step {j : Nat} {hv : List Nat} (hj : j < p.steps.length) (hl : hv.length = j + 1) :
    wgt l p j hv = sumTo (rowsN (tabN l p (j + 1))) fun y => if stepFits l p j (hv.getD (parI p j) 0) y = true then wgt l p (j + 1) (hv ++ [y]) else 0 := by
  have hA : wgt l p j hv = facS l p hv j * prodTo p.steps.length (fun q => if j + 1 ≤ q ∧ parI p q ≤ j then facS l p hv q else 1) := by
    unfold wgt
    rw [← prodTo_at p.steps.length j (facS l p hv j) hj, ← prodTo_mul]
    refine prodTo_congr fun q hq => ?_
    have hp := parI_le p (i := q) (by omega)
    by_cases e : q = j
    · subst e
      rw [if_pos ⟨Nat.le_refl _, hp⟩, if_pos rfl, if_neg (by omega), Int.mul_one]
    · rw [if_neg e, Int.one_mul]
      by_cases h2 : j ≤ q ∧ parI p q ≤ j
      · rw [if_pos h2, if_pos ⟨by omega, h2.2⟩]
      · rw [if_neg h2, if_neg (fun h => h2 ⟨by omega, h.2⟩)]
  have hB : ∀ y, y < rowsN (tabN l p (j + 1)) → wgt l p (j + 1) (hv ++ [y]) = prodTo p.steps.length (fun q => if j + 1 ≤ q ∧ parI p q ≤ j then facS l p hv q else 1) * cntI l p (j + 1) y := fun y hy => by
    rw [cntI_prod (by omega) hy, ← prodTo_mul]
    unfold wgt
    refine prodTo_congr fun q hq => ?_
    have hp := parI_le p (i := q) (by omega)
    by_cases e : parI p q = j + 1
    · rw [if_pos ⟨by omega, by omega⟩, if_neg (by omega), if_pos e, Int.one_mul]
      unfold facS
      rw [e, show j + 1 = hv.length from hl.symm, getD_last]
    · rw [if_neg e, Int.mul_one]
      by_cases h2 : j + 1 ≤ q ∧ parI p q ≤ j
      · rw [if_pos ⟨h2.1, by omega⟩, if_pos h2]
        unfold facS
        rw [getD_app (by omega)]
      · rw [if_neg h2, if_neg (fun h => h2 ⟨h.1, by omega⟩)]
  rw [hA]
  generalize prodTo p.steps.length (fun q => if j + 1 ≤ q ∧ parI p q ≤ j then facS l p hv q else 1) = A at *
  unfold facS fitS
  rw [Int.mul_comm, ← sumTo_mul]
  refine sumTo_congr fun y hy => ?_
  rw [hB y hy]
  unfold stepFits
  split
  · rfl
  · exact Int.mul_zero _
theorem flat_len {α : Type} (f : Nat → List α) : ∀ n, (((List.range n).flatMap f).length : Int) = sumTo n fun y => ((f y).length : Int)
  | 0 => rfl
  | n + 1 => by
    rw [range_flat, List.length_append, Int.natCast_add, flat_len f n, sumTo_succ]
theorem ext_len : ∀ (k : Nat) (hv : List Nat), hv ≠ [] → hv.length + k = p.steps.length + 1 → ((ext l p k hv).length : Int) = wgt l p (hv.length - 1) hv
  | 0, hv, hne, hl => by
    rw [show hv.length - 1 = p.steps.length by omega, wgt_end]; rfl
  | k + 1, hv, hne, hl => by
    have hpos : 0 < hv.length := List.length_pos_iff.2 hne
    obtain ⟨j, hj⟩ : ∃ j, hv.length = j + 1 := ⟨hv.length - 1, by omega⟩
    rw [show hv.length - 1 = j by omega, wgt_step (by omega) hj]
    show ((extN l p (ext l p k) hv (rowsN (tabN l p hv.length))).length : Int) = _
    unfold extN
    rw [flat_len, hj]
    refine sumTo_congr fun y hy => ?_
    unfold extF
    rw [show hv.length - 1 = j by omega]
    split
    · rw [ext_len k (hv ++ [y]) (by simp) (by rw [List.length_append, List.length_singleton]; omega)]
      congr 1
      rw [List.length_append, List.length_singleton]; omega
    · rfl
theorem cnt_ext {r : Nat} (hr : r < rowsN (tabN l p 0)) : cntI l p 0 r = ((ext l p p.steps.length [r]).length : Int) := by
  rw [ext_len p.steps.length [r] (by simp) (by rw [List.length_singleton]; omega), cntI_prod (Nat.zero_le _) hr]
  unfold wgt
  refine prodTo_congr fun q hq => ?_
  show _ = if 0 ≤ q ∧ parI p q ≤ 0 then facS l p [r] q else 1
  by_cases e : parI p q = 0
  · rw [if_pos e, if_pos ⟨Nat.zero_le _, by omega⟩]
    unfold facS
    rw [e]; rfl
  · rw [if_neg e, if_neg (fun h => e (by omega))]
theorem rows_total : sumTo (rowsN (tabN l p 0)) (cntI l p 0) = ((rowsL l p).length : Int) := by
  unfold rowsL rowsOfP
  rw [flat_len]
  exact sumTo_congr fun r hr => cnt_ext hr
theorem ext_mem : ∀ (k : Nat) (hv x : List Nat), hv ≠ [] → hv.length + k = p.steps.length + 1 → CombK l p hv.length (fun i => hv.getD i 0) → x ∈ ext l p k hv → x.length = p.steps.length + 1 ∧ Comb l p (fun i => x.getD i 0) ∧ ∀ i, i < hv.length → x.getD i 0 = hv.getD i 0
  | 0, hv, x, hne, hl, hc, hx => by
    have hx : x = hv := List.mem_singleton.1 hx
    subst hx
    refine ⟨by omega, ?_, fun i _ => rfl⟩
    unfold Comb
    rw [show p.steps.length + 1 = x.length by omega]
    exact hc
  | k + 1, hv, x, hne, hl, hc, hx => by
    have hpos : 0 < hv.length := List.length_pos_iff.2 hne
    obtain ⟨j, hj⟩ : ∃ j, hv.length = j + 1 := ⟨hv.length - 1, by omega⟩
    change x ∈ extN l p (ext l p k) hv (rowsN (tabN l p hv.length)) at hx
    unfold extN at hx
    rw [List.mem_flatMap] at hx
    obtain ⟨y, hy, h1⟩ := hx
    have hy := List.mem_range.1 hy
    unfold extF at h1
    rw [show hv.length - 1 = j by omega] at h1
    split at h1
    · rename_i hf
      have hpar := parI_le p (i := j) (by omega)
      have hc2 : CombK l p (hv ++ [y]).length (fun i => (hv ++ [y]).getD i 0) := by
        rw [List.length_append, List.length_singleton]
        refine ⟨fun i hi => ?_, fun q hq => ?_⟩
        · by_cases e : i = hv.length
          · subst e; simp only [getD_last]; exact hy
          · simp only [getD_app (show i < hv.length by omega)]
            exact hc.lt i (by omega)
        · have hp := parI_le p (i := q) (by omega)
          by_cases e : q + 1 = hv.length
          · obtain rfl : q = j := by omega
            simp only [e, getD_last, getD_app (show parI p q < hv.length by omega)]
            exact hf
          · simp only [getD_app (show q + 1 < hv.length by omega), getD_app (show parI p q < hv.length by omega)]
            exact hc.fit q (by omega)
      obtain ⟨g1, g2, g3⟩ := ext_mem k (hv ++ [y]) x (by simp) (by rw [List.length_append, List.length_singleton]; omega) hc2 h1
      refine ⟨g1, g2, fun i hi => ?_⟩
      rw [g3 i (by rw [List.length_append]; omega), getD_app hi]
    · cases h1
theorem rowsL_mem {x : List Nat} (h : x ∈ rowsL l p) : x.length = p.steps.length + 1 ∧ Comb l p (fun i => x.getD i 0) := by
  unfold rowsL rowsOfP at h
  rw [List.mem_flatMap] at h
  obtain ⟨r, hr, h1⟩ := h
  have hr := List.mem_range.1 hr
  obtain ⟨g1, g2, _⟩ := ext_mem p.steps.length [r] x (by simp) (by rw [List.length_singleton]; omega) ⟨fun i hi => (by
    have e : i = 0 := (by rw [List.length_singleton] at hi; omega)
    subst e; exact hr), fun q hq => (by rw [List.length_singleton] at hq; omega)⟩ h1
  exact ⟨g1, g2⟩
end
end Go.Sx.Sp
namespace Go.Sx.Sp
open Go Go.Sx Go.Proofs
attribute [local irreducible] GoodW famL
end Go.Sx.Sp
