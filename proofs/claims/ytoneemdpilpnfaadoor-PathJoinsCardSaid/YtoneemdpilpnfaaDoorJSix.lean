/- Contracts of relations of columns, and of paths that are drawn. -/
import Derived.Test.YtoneemdpilpnfaaDoorJFive
import Derived.Test.YtoneemdpilpnfaaDoorJFour
import Derived.Test.YtoneemdpilpnfaaDoorSxFour
set_option linter.unusedVariables false
set_option linter.unusedSimpArgs false
namespace Go.Sx.Sp
open Go Go.Sx Go.Proofs
attribute [local irreducible] GoodW famL
set_option maxHeartbeats 4000000 in
theorem counts29_spec (c : Column) (hc : c.cells.length ≤ 1000000) : Spec Tryd.prog 114 [.agg c.row] [] (.omap 6 0) [(6, .map (sumE (cntC c.cells)) (cntC c.cells).length (some []))] := by
  have hl := cellRows_len c.cells
  refine gEn env Tryd.func114 fun Γ hN hK hML => ?_
  (refine gGo ?_; intros)
  refine W.loopG (fun n st => ∃ j : Nat, j ≤ c.cells.length ∧ n = c.cells.length - j ∧ st = ⟨[(3, .omap 6 0), (8, .sl (cellRows c.cells) false), (9, .int .i64 (cellRows c.cells).length), (10, .int .i64 j)], [(6, [.map (sumE (cntC (c.cells.take j))) (cntC (c.cells.take j)).length (some [])])], [6]⟩)
    c.cells.length _ ⟨0, by omega, by omega, rfl⟩ ⟨[(6, 6)], [], [], .mq (.ci 6 .nil)⟩ ?_
  rintro n st ⟨j, hj, rfl, rfl⟩
  (refine gGo ?_; intros)
  refine boolRes_split (fun hb => ?_) (fun hb => ?_) <;> conv => whnf
  · have hlt : j < c.cells.length := by omega
    have hg := cellRows_get hlt
    have hsn := cntC_snoc hlt
    have hlb := cntC_bound (c.cells.take j)
    have hjl : (c.cells.take j).length = j := by simp; omega
    rw [hjl] at hlb
    generalize cntC (c.cells.take j) = T0 at *
    generalize hT : cntC (c.cells.take (j + 1)) = T1 at *
    generalize c.cells[j] = x at *
    (refine gGo ?_; intros)
    refine rowAt_of (by simpa using hg) ?_
    conv => whnf
    (refine gGo ?_; intros)
    cases hnull : x.null with
    | true =>
      have hsn : T1 = T0 := by rw [hsn]; unfold cntStep; rw [if_pos hnull]
      (refine gGo ?_; intros)
      refine ⟨_, _, ?_, ⟨j + 1, by omega, rfl, rfl⟩, [(6, 6)], [], [], LeG.mq (.cons 6 rfl rfl (.refl _) ?_ .nil)⟩
      · omega
      · rw [hT, hsn]; rfl
    | false =>
      obtain ⟨r0, hr1, hr2⟩ := sumE_look T0 x.text
      obtain ⟨r1, hq1, hq2⟩ := sumE_add T0 x.text 1
      have hlb := hlb x.text
      have hsn : T1 = addT T0 x.text 1 := by rw [hsn]; unfold cntStep; rw [if_neg (by rw [hnull]; decide)]
      (refine gGo ?_; intros)
      refine zok_intro (by kernel_rfl) ?_
      conv => whnf
      refine ⟨r0, hr1, ?_⟩
      rw [hr2]
      conv => whnf
      (refine gGo ?_; intros)
      refine ⟨r1, hq1, ?_⟩
      cases r1 with
      | none =>
        conv => whnf
        (refine gGo ?_; intros)
        refine ⟨_, _, ?_, ⟨j + 1, by omega, rfl, rfl⟩, [(6, 6)], [], [], LeG.mq (.cons 6 rfl rfl (.refl _) ?_ .nil)⟩
        · omega
        · rw [hT, hsn, ← hq2.1, hq2.2]; rfl
      | some p =>
        obtain ⟨jj, bb, vv⟩ := p
        conv => whnf
        (refine gGo ?_; intros)
        refine ⟨_, _, ?_, ⟨j + 1, by omega, rfl, rfl⟩, [(6, 6)], [], [], LeG.mq (.cons 6 rfl rfl (.refl _) ?_ .nil)⟩
        · omega
        · rw [hT, hsn, ← hq2.1, hq2.2]; rfl
  · have hje : j = c.cells.length := by omega
    rw [hje, List.take_length]
    (refine gGo ?_; intros)
    (refine gM ?_; conv => whnf)
    exact retH rfl (.refl _) rfl rfl rfl ⟨rfl, rfl, trivial⟩
structure Ah where
  common : Int
  onlyA : Int
  mostA : Int
  mostB : Int
  lostA : Int
  lostB : Int
def ahS (T U : List (Str × Int)) (a : Ah) (j : Nat) : Ah :=
  if lookT U (T.getD j ([], 0)).1 = 0 then ⟨a.common, a.onlyA + 1, a.mostA, a.mostB, a.lostA, a.lostB⟩
  else ⟨a.common + 1, a.onlyA, max a.mostA (valI T j), max a.mostB (lookT U (T.getD j ([], 0)).1), a.lostA - valI T j, a.lostB - lookT U (T.getD j ([], 0)).1⟩
def ahL (T U : List (Str × Int)) (ra rb : Int) (l : List Nat) : Ah := l.foldl (ahS T U) ⟨0, 0, 0, 0, ra, rb⟩
def ahM (T U : List (Str × Int)) (ra rb : Int) : Ah := ahL T U ra rb (List.range T.length)
theorem ahS_comm (T U : List (Str × Int)) (a : Ah) (i j : Nat) : ahS T U (ahS T U a i) j = ahS T U (ahS T U a j) i := by
  unfold ahS
  by_cases h : lookT U (T.getD i ([], 0)).1 = 0 <;> by_cases h' : lookT U (T.getD j ([], 0)).1 = 0 <;> simp only [h, h', if_true, if_false, Ah.mk.injEq, true_and, and_true]
  omega
theorem ahL_perm (T U : List (Str × Int)) (ra rb : Int) {l : List Nat} (h : l.Perm (List.range T.length)) : ahL T U ra rb l = ahM T U ra rb := by
  unfold ahM ahL
  generalize (Ah.mk 0 0 0 0 ra rb) = a
  generalize List.range T.length = l' at h
  induction h generalizing a with
  | nil => rfl
  | cons x _ ih => exact ih _
  | swap x y l => simp only [List.foldl_cons]; rw [ahS_comm]
  | trans _ _ ih1 ih2 => rw [ih1, ih2]
theorem ahL_snoc (T U : List (Str × Int)) (ra rb : Int) (l : List Nat) (j : Nat) : ahL T U ra rb (l ++ [j]) = ahS T U (ahL T U ra rb l) j := by
  unfold ahL; rw [List.foldl_append]; rfl
structure AhOK (a : Ah) (ra rb : Int) (n : Nat) : Prop where
  c : 0 ≤ a.common ∧ a.common ≤ n
  o : 0 ≤ a.onlyA ∧ a.onlyA ≤ n
  s : a.common + a.onlyA ≤ n
  ma : 0 ≤ a.mostA ∧ a.mostA ≤ 1000000
  mb : 0 ≤ a.mostB ∧ a.mostB ≤ 1000000
  la : a.lostA ≤ ra ∧ ra - n * 1000000 ≤ a.lostA
  lb : a.lostB ≤ rb ∧ rb - n * 1000000 ≤ a.lostB
theorem ahL_bound (T U : List (Str × Int)) (ra rb : Int) (hT : ∀ p ∈ T, 0 ≤ p.2 ∧ p.2 ≤ 1000000) (hU : ∀ p ∈ U, 0 ≤ p.2 ∧ p.2 ≤ 1000000) (l : List Nat) : AhOK (ahL T U ra rb l) ra rb l.length := by
  have hv : ∀ j, 0 ≤ valI T j ∧ valI T j ≤ 1000000 := fun j => by
    unfold valI
    rw [List.getD_eq_getElem?_getD]
    cases h : T[j]? with
    | none => simp
    | some p => exact hT p (List.mem_of_getElem? h)
  have hw : ∀ s, 0 ≤ lookT U s ∧ lookT U s ≤ 1000000 := lookT_mem (by decide) hU
  have : ∀ (l : List Nat) (a : Ah) (n : Nat), AhOK a ra rb n → AhOK (l.foldl (ahS T U) a) ra rb (n + l.length) := by
    intro l
    induction l with
    | nil => intro a n h; exact h
    | cons j l ih =>
      intro a n h
      have hj := hv j
      have hu := hw (T.getD j ([], 0)).1
      have := ih (ahS T U a j) (n + 1) (by
        obtain ⟨c, o, s, ma, mb, la, lb⟩ := h
        unfold ahS
        split
        · exact ⟨by simp only; omega, by simp only; omega, by simp only; omega, by simp only; omega, by simp only; omega, by simp only; omega, by simp only; omega⟩
        · exact ⟨by simp only; omega, by simp only; omega, by simp only; omega, by simp only; omega, by simp only; omega, by simp only; omega, by simp only; omega⟩)
      simp only [List.foldl_cons, List.length_cons]
      rw [show n + (l.length + 1) = n + 1 + l.length by omega]
      exact this
  have := this l ⟨0, 0, 0, 0, ra, rb⟩ 0 ⟨by simp, by simp, by simp, by simp, by simp, by simp, by simp⟩
  rw [Nat.zero_add] at this
  exact this
def rel29L (a : Table) (i : Nat) (b : Table) (j : Nat) : List Int :=
  let T := cntC ((a.cols.map Column.cells).getD i [])
  let U := cntC ((b.cols.map Column.cells).getD j [])
  let x := ahM T U (rowsN a) (rowsN b)
  [a.id, i, b.id, j, x.common, x.onlyA, U.length - x.common, x.mostA, x.mostB, x.lostA, x.lostB]
def of29E (a : Table) (i : Int) (b : Table) (j : Int) : List Int × Int :=
  if ¬ (validB a = true ∧ validB b = true) then (relZ, 1) else if ¬ (0 ≤ i ∧ i < a.cols.length ∧ 0 ≤ j ∧ j < b.cols.length) then (relZ, 2) else (rel29L a i.toNat b j.toNat, 0)
end Go.Sx.Sp
namespace Go.Sx.Sp
open Go Go.Sx Go.Proofs
attribute [local irreducible] GoodW famL
set_option maxHeartbeats 16000000 in
theorem of29_spec (a : Table) (i : Int) (b : Table) (j : Int) : Spec Tryd.prog 100 [.agg a.row, .int .i64 i, .agg b.row, .int .i64 j] [] (.tup [.agg (intsV (of29E a i b j).1), .int .i64 (of29E a i b j).2]) [] := by
  have sp1 := valid3_spec a
  have sp2 := valid3_spec b
  have hca := colRows_len a.cols
  have hcb := colRows_len b.cols
  refine gEn env Tryd.func100 fun Γ hN hK hML => ?_
  (refine gGo ?_; intros)
  cases ha : validB a with
  | false =>
    have he : of29E a i b j = (relZ, 1) := by unfold of29E; rw [if_pos]; simp [ha]
    rw [ha] at sp1
    rw [he]
    (refine gPC (sp1) ?_; conv => whnf)
    (refine gGo ?_; intros)
    (refine gM ?_; conv => whnf)
    exact retH rfl (.norm _) rfl rfl rfl trivial
  | true =>
    rw [ha] at sp1
    (refine gPC (sp1) ?_; conv => whnf)
    (refine gGo ?_; intros)
    cases hb : validB b with
    | false =>
      have he : of29E a i b j = (relZ, 1) := by unfold of29E; rw [if_pos]; simp [hb]
      rw [hb] at sp2
      rw [he]
      (refine gPC (sp2) ?_; conv => whnf)
      (refine gGo ?_; intros)
      (refine gM ?_; conv => whnf)
      exact retH rfl (.norm _) rfl rfl rfl trivial
    | true =>
      rw [hb] at sp2
      (refine gPC (sp2) ?_; conv => whnf)
      by_cases hr : 0 ≤ i ∧ i < a.cols.length ∧ 0 ≤ j ∧ j < b.cols.length
      · obtain ⟨k, rfl⟩ : ∃ k : Nat, i = k := ⟨i.toNat, by omega⟩
        obtain ⟨q, rfl⟩ : ∃ q : Nat, j = q := ⟨j.toNat, by omega⟩
        have he : of29E a k b q = (rel29L a k b q, 0) := by unfold of29E; rw [if_neg (by simp [ha, hb]), if_neg (by simpa using hr)]; rfl
        have hk : k < a.cols.length := by omega
        have hq : q < b.cols.length := by omega
        have hva := validB_rows ha
        have hvb := validB_rows hb
        have hxa := colRows_get hk
        have hxb := colRows_get hq
        have lA := hva.2 _ (List.getElem_mem hk)
        have lB := hvb.2 _ (List.getElem_mem hq)
        have sp3 := counts29_spec a.cols[k] (by omega)
        have sp4 := counts29_spec b.cols[q] (by omega)
        have mA := cntC_mems a.cols[k].cells
        have mB := cntC_mems b.cols[q].cells
        have sp5 := rows3_spec a
        have sp6 := rows3_spec b
        have hL : rel29L a k b q = [a.id, k, b.id, q, (ahM (cntC a.cols[k].cells) (cntC b.cols[q].cells) (rowsN a) (rowsN b)).common, (ahM (cntC a.cols[k].cells) (cntC b.cols[q].cells) (rowsN a) (rowsN b)).onlyA, (cntC b.cols[q].cells).length - (ahM (cntC a.cols[k].cells) (cntC b.cols[q].cells) (rowsN a) (rowsN b)).common, (ahM (cntC a.cols[k].cells) (cntC b.cols[q].cells) (rowsN a) (rowsN b)).mostA, (ahM (cntC a.cols[k].cells) (cntC b.cols[q].cells) (rowsN a) (rowsN b)).mostB, (ahM (cntC a.cols[k].cells) (cntC b.cols[q].cells) (rowsN a) (rowsN b)).lostA, (ahM (cntC a.cols[k].cells) (cntC b.cols[q].cells) (rowsN a) (rowsN b)).lostB] := by
          simp [rel29L, hk, hq]
        have hbd := ahL_bound (cntC a.cols[k].cells) (cntC b.cols[q].cells) (rowsN a) (rowsN b) (fun p hp => by have := mA.1 p hp; omega) (fun p hp => by have := mB.1 p hp; omega)
        have hperm := @ahL_perm (cntC a.cols[k].cells) (cntC b.cols[q].cells) (rowsN a) (rowsN b)
        have hsnoc := ahL_snoc (cntC a.cols[k].cells) (cntC b.cols[q].cells) (rowsN a) (rowsN b)
        have hval : ∀ p ∈ cntC a.cols[k].cells, 0 ≤ p.2 ∧ p.2 ≤ 1000000 := fun p hp => by have := mA.1 p hp; omega
        have hvalU : ∀ s, 0 ≤ lookT (cntC b.cols[q].cells) s ∧ lookT (cntC b.cols[q].cells) s ≤ 1000000 := lookT_mem (by decide) (fun p hp => by have := mB.1 p hp; omega)
        rw [he, hL]
        have mA2 := mA.2
        have mB2 := mB.2
        clear mA mB hL he
        generalize cntC a.cols[k].cells = TA at *
        generalize cntC b.cols[q].cells = TB at *
        generalize hcolA : a.cols[k] = ca at *
        generalize hcolB : b.cols[q] = cb at *
        (refine gGo ?_; intros)
        refine rowAt_of (by simpa using hxa) ?_
        conv => whnf
        (refine gGo ?_; intros)
        (refine gCA [] [(6, 50)] [] (sp3) ?_; conv => whnf)
        (refine gGo ?_; intros)
        refine rowAt_of (by simpa using hxb) ?_
        conv => whnf
        (refine gGo ?_; intros)
        (refine gCA [] [(6, 56)] [] (sp4) ?_; conv => whnf)
        (refine gGo ?_; intros)
        (refine gPC (sp5) ?_; conv => whnf)
        (refine gGo ?_; intros)
        (refine gPC (sp6) ?_; conv => whnf)
        (refine gGo ?_; intros)
        refine W.leG (mp := [(4, 4), (6, 6), (8, 8), (50, 50), (56, 56), (12, 12), (74, 74)]) (bo := []) (st' := ⟨[(4, .bp 4 0), (6, .bp 6 0), (8, .bp 8 0), (10, .omap 50 0), (11, .omap 56 0), (12, .bp 12 0), (74, .bp 74 0)], [(4, [.rows 3 [a.row] none]), (6, [.rows 3 [b.row] none]), (8, [.rows 11 [intsV relZ] none]), (50, [.map (sumE TA) TA.length (some [])]), (56, [.map (sumE TB) TB.length (some [])]), (12, [.rows 11 [[.int .i64 a.id, .int .i64 k, .int .i64 b.id, .int .i64 q, .int .i64 (ahL TA TB (rowsN a) (rowsN b) []).common, .int .i64 (ahL TA TB (rowsN a) (rowsN b) []).onlyA, .int .i64 0, .int .i64 (ahL TA TB (rowsN a) (rowsN b) []).mostA, .int .i64 (ahL TA TB (rowsN a) (rowsN b) []).mostB, .int .i64 (ahL TA TB (rowsN a) (rowsN b) []).lostA, .int .i64 (ahL TA TB (rowsN a) (rowsN b) []).lostB]] none]), (74, [.iter 50 0 TA.length []])], [4, 6, 8, 50, 56, 12, 74]⟩)
          (LeG.mq (.ci 4 (.ci 6 (.ci 8 (.ci 50 (.ci 56 (.ci 12 (.ci 74 .nil)))))))) ?_
        have hAl := sumE_len TA
        have hBl := sumE_len TB
        refine W.loopG (fun n st => ∃ seen : List Nat, Seen TA.length seen ∧ n = TA.length - seen.length ∧ st = ⟨[(4, .bp 4 0), (6, .bp 6 0), (8, .bp 8 0), (10, .omap 50 0), (11, .omap 56 0), (12, .bp 12 0), (74, .bp 74 0)], [(4, [.rows 3 [a.row] none]), (6, [.rows 3 [b.row] none]), (8, [.rows 11 [intsV relZ] none]), (50, [.map (sumE TA) TA.length (some [])]), (56, [.map (sumE TB) TB.length (some [])]), (12, [.rows 11 [[.int .i64 a.id, .int .i64 k, .int .i64 b.id, .int .i64 q, .int .i64 (ahL TA TB (rowsN a) (rowsN b) seen).common, .int .i64 (ahL TA TB (rowsN a) (rowsN b) seen).onlyA, .int .i64 0, .int .i64 (ahL TA TB (rowsN a) (rowsN b) seen).mostA, .int .i64 (ahL TA TB (rowsN a) (rowsN b) seen).mostB, .int .i64 (ahL TA TB (rowsN a) (rowsN b) seen).lostA, .int .i64 (ahL TA TB (rowsN a) (rowsN b) seen).lostB]] none]), (74, [.iter 50 0 TA.length seen])], [4, 6, 8, 50, 56, 12, 74]⟩)
          TA.length _ ⟨[], Seen.nil _, by simp, rfl⟩ ⟨[(4, 4), (6, 6), (8, 8), (50, 50), (56, 56), (12, 12), (74, 74)], [], [], .mq (.ci 4 (.ci 6 (.ci 8 (.ci 50 (.ci 56 (.ci 12 (.ci 74 .nil)))))))⟩ ?_
        rintro n st ⟨seen, hs, rfl, rfl⟩
        refine gA ?_
        have hbs := hbd seen
        have hsl := hs.len
        refine W.nextMap env hN rfl rfl rfl (by kernel_rfl) rfl rfl rfl (fun hD => ?_) (fun j0 j kk v hj hb => ?_)
        · have hall : ∀ i, i < TA.length → i ∈ seen := fun i hi => hD i i _ _ (sumE_at hi)
          have hp := hperm (hs.perm hall)
          rw [hp] at hbs ⊢
          generalize ahM TA TB (rowsN a) (rowsN b) = x at *
          obtain ⟨c1, c2, c3, c4, c5, c6, c7⟩ := hbs
          conv => whnf
          (refine gGo ?_; intros)
          (refine gM ?_; conv => whnf)
          rw [hBl]
          exact retH rfl (.norm _) rfl rfl rfl trivial
        · obtain ⟨hjl, rfl, rfl, rfl⟩ := sumE_get hj
          have hsn := hsnoc seen j
          have hs' := hs.snoc hjl hb
          have hlen := hs'.len
          simp only [List.length_append, List.length_cons, List.length_nil] at hlen
          have hget : TA.getD j ([], 0) = TA[j] := by simp [hjl]
          have hvb := hval _ (List.getElem_mem hjl)
          have hub := hvalU TA[j].1
          have hat := sumE_at hjl
          have hbs' := hbd (seen ++ [j])
          obtain ⟨r0, hr1, hr2⟩ := sumE_look TB TA[j].1
          rw [hsn] at hbs'
          unfold ahS valI at hsn hbs'
          rw [hget] at hsn hbs'
          generalize ahL TA TB (rowsN a) (rowsN b) seen = x at *
          obtain ⟨c1, c2, c3, c4, c5, c6, c7⟩ := hbs
          conv => whnf
          (refine gGo ?_; intros)
          refine ⟨seen, j, j, .str _, .int .i64 _, rfl, hat, rfl, ?_⟩
          conv => whnf
          (refine gGo ?_; intros)
          refine zok_intro (by kernel_rfl) ?_
          conv => whnf
          refine ⟨r0, hr1, ?_⟩
          rw [hr2]
          conv => whnf
          (refine gGo ?_; intros)
          refine boolRes_split (fun hb => ?_) (fun hb => ?_) <;> conv => whnf
          · rw [if_pos hb] at hsn hbs'
            (refine gGo ?_; intros)
            refine ⟨_, _, ?_, ⟨seen ++ [j], hs', rfl, rfl⟩, [(4, 4), (6, 6), (8, 8), (50, 50), (56, 56), (12, 12), (74, 74)], [], [], LeG.mq (.ci 4 (.ci 6 (.ci 8 (.ci 50 (.ci 56 (.cons 12 rfl rfl (.refl _) (by rw [hsn]; rfl) (.ci 74 .nil)))))))⟩
            simp; omega
          · rw [if_neg hb] at hsn hbs'
            (refine gGo ?_; intros)
            refine ⟨_, _, ?_, ⟨seen ++ [j], hs', rfl, rfl⟩, [(4, 4), (6, 6), (8, 8), (50, 50), (56, 56), (12, 12), (74, 74)], [], [], LeG.mq (.ci 4 (.ci 6 (.ci 8 (.ci 50 (.ci 56 (.cons 12 rfl rfl (.refl _) (by rw [hsn]; rfl) (.ci 74 .nil)))))))⟩
            simp; omega
      · have he : of29E a i b j = (relZ, 2) := by unfold of29E; rw [if_neg (by simp [ha, hb]), if_pos hr]
        rw [he]
        by_cases h1 : i < 0
        · (refine gGo ?_; intros)
          (refine gM ?_; conv => whnf)
          exact retH rfl (.norm _) rfl rfl rfl trivial
        by_cases h2 : i < a.cols.length
        · by_cases h3 : j < 0
          · (refine gGo ?_; intros)
            (refine gM ?_; conv => whnf)
            exact retH rfl (.norm _) rfl rfl rfl trivial
          · (refine gGo ?_; intros)
            (refine gM ?_; conv => whnf)
            exact retH rfl (.norm _) rfl rfl rfl trivial
        · (refine gGo ?_; intros)
          (refine gM ?_; conv => whnf)
          exact retH rfl (.norm _) rfl rfl rfl trivial
end Go.Sx.Sp
namespace Go.Sx.Sp
open Go Go.Sx Go.Proofs
attribute [local irreducible] GoodW famL
set_option maxHeartbeats 4000000 in
theorem contained_spec (r0 r1 r2 r3 r6 r7 r8 r9 r10 : Int) (x y : Nat) (hx0 : x ≠ 0) (hx : x ≤ 4096) (hy : y ≤ 4096) : Spec Tryd.prog 101 [.agg (intsV [r0, r1, r2, r3, x, y, r6, r7, r8, r9, r10])] [] (.agg (fracV (partF x (x + y)).1 (partF x (x + y)).2)) [] := by
  have sp := part_spec x (x + y) (by omega) (by omega) (by omega)
  rw [Int.natCast_add] at sp
  generalize (partF x (x + y)).1 = p at *
  generalize (partF x (x + y)).2 = q at *
  refine gEn env Tryd.func101 fun Γ hN hK hML => ?_
  (refine gGo ?_; intros)
  (refine gPC (sp) ?_; conv => whnf)
  (refine gGo ?_; intros)
  (refine gM ?_; conv => whnf)
  exact retH rfl (.norm _) rfl rfl rfl trivial
set_option maxHeartbeats 4000000 in
theorem turn29_spec (r0 r1 r2 r3 r4 r5 r6 r7 r8 r9 r10 : Int) : Spec Tryd.prog 70 [.agg (intsV [r0, r1, r2, r3, r4, r5, r6, r7, r8, r9, r10])] [] (.agg (intsV [r2, r3, r0, r1, r4, r6, r5, r8, r7, r10, r9])) [] := by
  refine gEn env Tryd.func70 fun Γ hN hK hML => ?_
  (refine gGo ?_; intros)
  (refine gM ?_; conv => whnf)
  exact retH rfl (.norm _) rfl rfl rfl trivial
theorem ascB_iff : ∀ (l : List Table), ascB l = true ↔ ∀ i (h : i + 1 < l.length), l[i].id < l[i + 1].id
  | [] => by simp [ascB]
  | [a] => by simp [ascB]
  | a :: b :: r => by
    have ih := ascB_iff (b :: r)
    simp only [ascB, Bool.and_eq_true, decide_eq_true_eq, ih]
    constructor
    · rintro ⟨h1, h2⟩ i hi
      cases i with
      | zero => exact h1
      | succ i => exact h2 i (by simp at hi ⊢; omega)
    · intro h
      refine ⟨h 0 (by simp), fun i hi => ?_⟩
      exact h (i + 1) (by simp at hi ⊢; omega)
theorem listB_iff (l : List Table) : listB l = true ↔ (∀ i (h : i < l.length), validB l[i] = true) ∧ (∀ i (h : i + 1 < l.length), l[i].id < l[i + 1].id) ∧ l.length ≤ 1024 := by
  unfold listB
  simp only [Bool.and_eq_true, decide_eq_true_eq, ascB_iff, List.all_eq_true]
  constructor
  · rintro ⟨h1, h2, h3⟩
    exact ⟨fun i h => h3 _ (List.getElem_mem h), h1, h2⟩
  · rintro ⟨h1, h2, h3⟩
    refine ⟨h2, h3, fun t ht => ?_⟩
    obtain ⟨i, h, rfl⟩ := List.getElem_of_mem ht
    exact h1 i h
set_option maxHeartbeats 8000000 in
theorem validList3_spec (l : List Table) : Spec Tryd.prog 45 [.sl (tblRows l) false] [] (.bool (listB l)) [] := by
  have hl := tblRows_len l
  refine gEn env Tryd.func45 fun Γ hN hK hML => ?_
  (refine gGo ?_; intros)
  refine W.loopG (fun n st => ∃ k : Nat, k ≤ l.length ∧ (∀ i (h : i < l.length), i < k → validB l[i] = true) ∧ (∀ i (h : i + 1 < l.length), i + 1 < k → l[i].id < l[i + 1].id) ∧ n = l.length - k ∧ st = ⟨[(0, .sl (tblRows l) false), (5, .sl (tblRows l) false), (6, .int .i64 (tblRows l).length), (7, .int .i64 k)], [], []⟩)
    l.length _ ⟨0, by omega, fun i h hi => by omega, fun i h hi => by omega, by omega, rfl⟩ ⟨[], [], [], .mq .nil⟩ ?_
  rintro n st ⟨k, hk, hv, ha, rfl, rfl⟩
  (refine gGo ?_; intros)
  refine boolRes_split (fun hb => ?_) (fun hb => ?_) <;> conv => whnf
  · have hlt : k < l.length := by omega
    have hg := tblRows_get hlt
    have sp := valid3_spec l[k]
    have hvn := fun (hv2 : validB l[k] = true) (i : Nat) (h : i < l.length) (hi : i < k + 1) => show validB l[i] = true from by
      by_cases e : i = k
      · subst e; exact hv2
      · exact hv i h (by omega)
    cases hvk : validB l[k] with
    | false =>
      have hT : listB l = false := by
        cases h : listB l with
        | false => rfl
        | true => have := ((listB_iff l).1 h).1 k hlt; rw [hvk] at this; cases this
      rw [hvk] at sp
      generalize l[k] = t at *
      (refine gGo ?_; intros)
      refine rowAt_of (by simpa using hg) ?_
      conv => whnf
      (refine gGo ?_; intros)
      (refine gPC (sp) ?_; conv => whnf)
      (refine gGr ?_; intros)
      exact ret0 rfl (congrArg V.bool hT.symm) rfl
    | true =>
      rw [hvk] at sp
      have hvm := hvn hvk
      clear hvn
      by_cases hk0 : k = 0
      · subst hk0
        generalize l[0] = t at *
        (refine gGo ?_; intros)
        refine rowAt_of (by simpa using hg) ?_
        conv => whnf
        (refine gGo ?_; intros)
        (refine gPC (sp) ?_; conv => whnf)
        (refine gGo ?_; intros)
        refine ⟨_, _, ?_, ⟨0 + 1, by omega, hvm, fun i h hi => by omega, rfl, rfl⟩, ⟨[], [], [], .mq .nil⟩⟩
        omega
      · obtain ⟨q, rfl⟩ : ∃ q, k = q + 1 := ⟨k - 1, by omega⟩
        have hlq : q < l.length := by omega
        have hgq := tblRows_get hlq
        have hge : (tblRows l)[(((q + 1 : Nat) : Int) - 1).toNat]? = some l[q].row := by
          rw [show (((q + 1 : Nat) : Int) - 1).toNat = q by omega]; exact hgq
        have han := fun (h2 : l[q].id < l[q + 1].id) (i : Nat) (h : i + 1 < l.length) (hi : i + 1 < q + 1 + 1) => show l[i].id < l[i + 1].id from by
          by_cases e : i = q
          · subst e; exact h2
          · exact ha i h (by omega)
        have hF : ¬ l[q].id < l[q + 1].id → listB l = false := fun h2 => by
          cases h : listB l with
          | false => rfl
          | true => exact absurd (((listB_iff l).1 h).2.1 q hlt) h2
        generalize l[q + 1] = t at *
        generalize l[q] = u at *
        (refine gGo ?_; intros)
        refine rowAt_of (by simpa using hg) ?_
        conv => whnf
        (refine gGo ?_; intros)
        (refine gPC (sp) ?_; conv => whnf)
        (refine gGo ?_; intros)
        refine rowAt_of hge ?_
        conv => whnf
        (refine gGo ?_; intros)
        refine boolRes_split (fun hb => ?_) (fun hb => ?_) <;> conv => whnf
        · have hT := hF (by omega)
          (refine gGr ?_; intros)
          exact ret0 rfl (congrArg V.bool hT.symm) rfl
        · (refine gGo ?_; intros)
          refine ⟨_, _, ?_, ⟨q + 1 + 1, by omega, hvm, han (by omega), rfl, rfl⟩, ⟨[], [], [], .mq .nil⟩⟩
          omega
  · have hke : k = l.length := by omega
    subst hke
    have hT : listB l = decide (l.length ≤ 1024) := by
      rw [Bool.eq_iff_iff, listB_iff, decide_eq_true_eq]
      exact ⟨fun h => h.2.2, fun h => ⟨fun i h => hv i h h, fun i h => ha i h h, h⟩⟩
    rw [hT]
    (refine gGo ?_; intros)
    refine boolRes_keep ?_
    conv => whnf
    (refine gGr ?_; intros)
    exact ret0 rfl (congrArg V.bool (decide_eq_decide.2 (by omega))) rfl
end Go.Sx.Sp
namespace Go.Sx.Sp
open Go Go.Sx Go.Proofs
attribute [local irreducible] GoodW famL
def relRows (l : List (List Int)) : List (List V) := l.map intsV
theorem relRows_len (l : List (List Int)) : (relRows l).length = l.length := by simp [relRows]
theorem relRows_snoc (a : List (List Int)) (t : List Int) : relRows (a ++ [t]) = relRows a ++ [intsV t] := by simp [relRows]
def edgeC (a : Table) (i : Nat) (b : Table) (j : Nat) : List (List Int) := if 0 < (of29E a i b j).1.getD 4 0 then [(of29E a i b j).1] else []
def edgeB (a : Table) (i : Nat) (b : Table) (n : Nat) : List (List Int) := (List.range n).flatMap (edgeC a i b)
def edgeR (a : Table) (i : Nat) (bs : List Table) : List (List Int) := bs.flatMap fun b => edgeB a i b b.cols.length
def edgeA (l : List Table) (k n : Nat) : List (List Int) := (List.range n).flatMap fun i => edgeR (l.getD k Table.zero) i (l.drop (k + 1))
def edgeL (l : List Table) (n : Nat) : List (List Int) := (List.range n).flatMap fun k => edgeA l k (l.getD k Table.zero).cols.length
def edges (l : List Table) : List (List Int) := edgeL l l.length
theorem range_flat {α : Type} (f : Nat → List α) (n : Nat) : (List.range (n + 1)).flatMap f = (List.range n).flatMap f ++ f n := by simp [List.range_succ]
theorem flat_le {α β : Type} (f : α → List β) (B : Nat) : ∀ (l : List α), (∀ x ∈ l, (f x).length ≤ B) → (l.flatMap f).length ≤ l.length * B
  | [], _ => by simp
  | x :: l, h => by
    have h1 := h x (by simp)
    have h2 := flat_le f B l fun y hy => h y (by simp [hy])
    rw [List.flatMap_cons, List.length_append, List.length_cons, Nat.add_mul]; omega
theorem edgeC_len (a : Table) (i : Nat) (b : Table) (j : Nat) : (edgeC a i b j).length ≤ 1 := by unfold edgeC; split <;> simp
theorem edgeB_len (a : Table) (i : Nat) (b : Table) (n : Nat) : (edgeB a i b n).length ≤ n := by
  have := flat_le (edgeC a i b) 1 (List.range n) (fun j _ => edgeC_len a i b j)
  unfold edgeB
  simpa using this
theorem edgeR_len (a : Table) (i : Nat) {bs : List Table} (h : ∀ b ∈ bs, b.cols.length ≤ 64) : (edgeR a i bs).length ≤ bs.length * 64 :=
  flat_le _ 64 bs fun b hb => Nat.le_trans (edgeB_len a i b _) (h b hb)
theorem edgeA_len {l : List Table} (h : ∀ b ∈ l, b.cols.length ≤ 64) (hl : l.length ≤ 100) (k n : Nat) : (edgeA l k n).length ≤ n * 6400 := by
  have := flat_le (fun i => edgeR (l.getD k Table.zero) i (l.drop (k + 1))) 6400 (List.range n) (fun i _ => by
    have := edgeR_len (l.getD k Table.zero) i (bs := l.drop (k + 1)) (fun b hb => h b (List.mem_of_mem_drop hb))
    rw [List.length_drop] at this
    omega)
  rwa [List.length_range] at this
theorem edgeL_len {l : List Table} (h : ∀ b ∈ l, b.cols.length ≤ 64) (hl : l.length ≤ 100) {n : Nat} (hn : n ≤ l.length) : (edgeL l n).length ≤ n * 409600 := by
  have := flat_le (fun k => edgeA l k (l.getD k Table.zero).cols.length) 409600 (List.range n) (fun k hk => by
    have hk := List.mem_range.1 hk
    have h1 := edgeA_len h hl k (l.getD k Table.zero).cols.length
    have h2 : (l.getD k Table.zero).cols.length ≤ 64 := by
      rw [List.getD_eq_getElem?_getD, List.getElem?_eq_getElem (show k < l.length by omega)]
      exact h _ (List.getElem_mem _)
    omega)
  rwa [List.length_range] at this
theorem edgeR_snoc (a : Table) (i : Nat) (bs : List Table) (b : Table) : edgeR a i (bs ++ [b]) = edgeR a i bs ++ edgeB a i b b.cols.length := by simp [edgeR]
theorem edgeA_succ (l : List Table) (k i : Nat) : edgeA l k (i + 1) = edgeA l k i ++ edgeR (l.getD k Table.zero) i (l.drop (k + 1)) := range_flat _ _
theorem edgeL_succ (l : List Table) (k : Nat) : edgeL l (k + 1) = edgeL l k ++ edgeA l k (l.getD k Table.zero).cols.length := range_flat _ _
theorem of29_form {a b : Table} (ha : validB a = true) (hb : validB b = true) {i j : Nat} (hi : i < a.cols.length) (hj : j < b.cols.length) :
    ∃ (x y : Nat) (r6 r7 r8 r9 r10 : Int), of29E a i b j = ([a.id, (i : Int), b.id, (j : Int), (x : Int), (y : Int), r6, r7, r8, r9, r10], 0) ∧ x ≤ 4096 ∧ y ≤ 4096 := by
  have he : of29E a i b j = (rel29L a i b j, 0) := by
    unfold of29E
    rw [if_neg (by simp [ha, hb]), if_neg (fun h => h ⟨by omega, by omega, by omega, by omega⟩)]; rfl
  have hva := validB_rows ha
  have hvb := validB_rows hb
  have lA := hva.2 _ (List.getElem_mem hi)
  have lB := hvb.2 _ (List.getElem_mem hj)
  have mA := cntC_mems a.cols[i].cells
  have mB := cntC_mems b.cols[j].cells
  have hbd := ahL_bound (cntC a.cols[i].cells) (cntC b.cols[j].cells) (rowsN a) (rowsN b) (fun p hp => by have := mA.1 p hp; omega) (fun p hp => by have := mB.1 p hp; omega) (List.range (cntC a.cols[i].cells).length)
  rw [List.length_range] at hbd
  obtain ⟨c1, c2, _, _, _, _, _⟩ := hbd
  obtain ⟨x, hx⟩ := Int.eq_ofNat_of_zero_le c1.1
  obtain ⟨y, hy⟩ := Int.eq_ofNat_of_zero_le c2.1
  rw [he]
  refine ⟨x, y, (cntC b.cols[j].cells).length - (ahM (cntC a.cols[i].cells) (cntC b.cols[j].cells) (rowsN a) (rowsN b)).common, (ahM (cntC a.cols[i].cells) (cntC b.cols[j].cells) (rowsN a) (rowsN b)).mostA, (ahM (cntC a.cols[i].cells) (cntC b.cols[j].cells) (rowsN a) (rowsN b)).mostB, (ahM (cntC a.cols[i].cells) (cntC b.cols[j].cells) (rowsN a) (rowsN b)).lostA, (ahM (cntC a.cols[i].cells) (cntC b.cols[j].cells) (rowsN a) (rowsN b)).lostB, ?_, by omega, by omega⟩
  rw [← hx, ← hy]
  simp [rel29L, hi, hj]
  exact ⟨rfl, rfl⟩
set_option maxHeartbeats 32000000 in
theorem build_spec (l : List Table) (hv : listB l = true) (hl : l.length ≤ 100) : Spec Tryd.prog 68 [.sl (tblRows l) false, .agg (fracV 0 1)] [] (.tup [.sl (relRows (edges l)) false, .int .i64 0]) [] := by
  have spV := validList3_spec l
  rw [hv] at spV
  have sp0 := zero23_spec
  have sp1 := less23_spec 0 1 zeroOK
  have sp2 := int23_spec 1 (by decide)
  have sp3 := less23_spec (partF 1 1).1 (partF 1 1).2 (partF_ok (by decide) (by decide) (by decide))
  have hal := listB_valid hv
  have hcols : ∀ b ∈ l, b.cols.length ≤ 64 := fun b hb => by
    have := hal b hb
    unfold validB headB at this
    simp only [Bool.and_eq_true, decide_eq_true_eq] at this
    exact this.1.1.2
  have htl := tblRows_len l
  generalize (partF 1 1).1 = p1 at *
  generalize (partF 1 1).2 = q1 at *
  refine gEn env Tryd.func68 fun Γ hN hK hML => ?_
  (refine gGo ?_; intros)
  (refine gPC (spV) ?_; conv => whnf)
  (refine gGo ?_; intros)
  (refine gPC (sp0) ?_; conv => whnf)
  (refine gGo ?_; intros)
  (refine gPC (sp1) ?_; conv => whnf)
  (refine gGo ?_; intros)
  (refine gPC (sp2) ?_; conv => whnf)
  (refine gGo ?_; intros)
  (refine gPC (sp3) ?_; conv => whnf)
  (refine gGo ?_; intros)
  refine W.ownNil 6 90 11 rfl rfl ?_
  refine W.leG (mp := [(3, 3), (90, 90)]) (bo := []) (st' := ⟨[(0, .sl (tblRows l) false), (3, .bp 3 0), (6, .osl 90 0 0 0 0), (28, .sl (tblRows l) false), (29, .int .i64 (tblRows l).length), (30, .int .i64 0)], [(3, [.rows 4 [fracV 0 1] none]), (90, [.rows 11 [] (some [])])], [3, 90]⟩)
    (LeG.mq (.ci 3 (.ci 90 .nil))) ?_
  refine W.loopG (fun n st => ∃ (k : Nat) (out : List (List Int)), k ≤ l.length ∧ out = edgeL l k ∧ n = l.length - k ∧ st = ⟨[(0, .sl (tblRows l) false), (3, .bp 3 0), (6, .osl 90 0 0 (relRows out).length (relRows out).length), (28, .sl (tblRows l) false), (29, .int .i64 (tblRows l).length), (30, .int .i64 k)], [(3, [.rows 4 [fracV 0 1] none]), (90, [.rows 11 (relRows out) (some [])])], [3, 90]⟩)
    l.length _ ⟨0, [], by omega, rfl, by omega, rfl⟩ ⟨[(3, 3), (90, 90)], [], [], .mq (.ci 3 (.ci 90 .nil))⟩ ?_
  rintro n st ⟨k, o1, hk, ho1, rfl, rfl⟩
  (refine gGo ?_; intros)
  refine boolRes_split (fun hb => ?_) (fun hb => ?_) <;> conv => whnf
  · have hkl : k < l.length := by omega
    have hg := tblRows_get hkl
    have hak := hal _ (List.getElem_mem hkl)
    have hck := hcols _ (List.getElem_mem hkl)
    have hgd : l.getD k Table.zero = l[k] := by simp [hkl]
    generalize ha : l[k] = a at *
    (refine gGo ?_; intros)
    refine rowAt_of (by simpa using hg) ?_
    conv => whnf
    have hb1 := edgeL_len hcols hl (show k ≤ l.length by omega)
    rw [← ho1] at hb1
    (refine gGo ?_; intros)
    refine W.loopG (fun n st => ∃ (i : Nat) (out : List (List Int)), i ≤ a.cols.length ∧ out = o1 ++ edgeA l k i ∧ n = a.cols.length - i ∧ st = ⟨[(0, .sl (tblRows l) false), (3, .bp 3 0), (6, .osl 90 0 0 (relRows out).length (relRows out).length), (28, .sl (tblRows l) false), (29, .int .i64 (tblRows l).length), (30, .int .i64 k), (7, .int .i64 k), (8, .bp 8 0), (36, .sl (colRows a.cols) false), (37, .int .i64 (colRows a.cols).length), (38, .int .i64 i)], [(3, [.rows 4 [fracV 0 1] none]), (90, [.rows 11 (relRows out) (some [])]), (8, [.rows 3 [a.row] none])], [3, 90, 8]⟩)
      a.cols.length _ ⟨0, o1, by omega, by simp [edgeA], by omega, rfl⟩ ⟨[(3, 3), (90, 90), (8, 8)], [], [], .mq (.ci 3 (.ci 90 (.ci 8 .nil)))⟩ ?_
    rintro n st ⟨i, o2, hi, ho2, rfl, rfl⟩
    have hal2 := colRows_len a.cols
    (refine gGo ?_; intros)
    refine boolRes_split (fun hb => ?_) (fun hb => ?_) <;> conv => whnf
    · have hil : i < a.cols.length := by omega
      have hb2 : o2.length ≤ 100 * 409600 + 64 * 6400 := by
        have := edgeA_len hcols hl k i
        rw [ho2, List.length_append]; omega
      obtain ⟨bs, hbs⟩ : ∃ bs, bs = l.drop (k + 1) := ⟨_, rfl⟩
      have hbl : bs.length = l.length - (k + 1) := by rw [hbs, List.length_drop]
      have hbm : ∀ b ∈ bs, b ∈ l := fun b hb => by rw [hbs] at hb; exact List.mem_of_mem_drop hb
      have hbt := tblRows_len bs
      have hdr : ((tblRows l).take ((tblRows l).length : Int).toNat).drop (((k : Int) + 1).toNat) = tblRows bs := by
        rw [Int.toNat_natCast, List.take_length, show ((k : Int) + 1).toNat = k + 1 by omega, hbs]
        unfold tblRows
        rw [List.map_drop]
      (refine gGo ?_; intros)
      refine ⟨tblRows_sz l, ?_⟩
      conv => whnf
      rw [hdr]
      (refine gGo ?_; intros)
      refine W.loopG (fun n st => ∃ (m : Nat) (out : List (List Int)), m ≤ bs.length ∧ out = o2 ++ edgeR a i (bs.take m) ∧ n = bs.length - m ∧ st = ⟨[(0, .sl (tblRows l) false), (3, .bp 3 0), (6, .osl 90 0 0 (relRows out).length (relRows out).length), (28, .sl (tblRows l) false), (29, .int .i64 (tblRows l).length), (30, .int .i64 k), (7, .int .i64 k), (8, .bp 8 0), (36, .sl (colRows a.cols) false), (37, .int .i64 (colRows a.cols).length), (38, .int .i64 i), (9, .int .i64 i), (44, .sl (tblRows bs) false), (45, .int .i64 (tblRows bs).length), (46, .int .i64 m)], [(3, [.rows 4 [fracV 0 1] none]), (90, [.rows 11 (relRows out) (some [])]), (8, [.rows 3 [a.row] none])], [3, 90, 8]⟩)
        bs.length _ ⟨0, o2, by omega, by simp [edgeR], by omega, rfl⟩ ⟨[(3, 3), (90, 90), (8, 8)], [], [], .mq (.ci 3 (.ci 90 (.ci 8 .nil)))⟩ ?_
      rintro n st ⟨m, o3, hm, ho3, rfl, rfl⟩
      (refine gGo ?_; intros)
      refine boolRes_split (fun hb => ?_) (fun hb => ?_) <;> conv => whnf
      · have hml : m < bs.length := by omega
        have hgm := tblRows_get hml
        have hbk := hal _ (hbm _ (List.getElem_mem hml))
        have hcb := hcols _ (hbm _ (List.getElem_mem hml))
        have hb3 : o3.length ≤ 100 * 409600 + 64 * 6400 + 100 * 64 := by
          have := edgeR_len a i (bs := bs.take m) (fun b hb => hcols _ (hbm _ (List.mem_of_mem_take hb)))
          rw [List.length_take] at this
          rw [ho3, List.length_append]; omega
        have htk : bs.take (m + 1) = bs.take m ++ [bs[m]] := List.take_succ_eq_append_getElem hml
        generalize bs[m] = b at *
        have hbl2 := colRows_len b.cols
        (refine gGo ?_; intros)
        refine rowAt_of (by simpa using hgm) ?_
        conv => whnf
        (refine gGo ?_; intros)
        refine W.loopG (fun n st => ∃ (j : Nat) (out : List (List Int)), j ≤ b.cols.length ∧ out = o3 ++ edgeB a i b j ∧ n = b.cols.length - j ∧ st = ⟨[(0, .sl (tblRows l) false), (3, .bp 3 0), (6, .osl 90 0 0 (relRows out).length (relRows out).length), (28, .sl (tblRows l) false), (29, .int .i64 (tblRows l).length), (30, .int .i64 k), (7, .int .i64 k), (8, .bp 8 0), (36, .sl (colRows a.cols) false), (37, .int .i64 (colRows a.cols).length), (38, .int .i64 i), (9, .int .i64 i), (44, .sl (tblRows bs) false), (45, .int .i64 (tblRows bs).length), (46, .int .i64 m), (11, .bp 11 0), (51, .sl (colRows b.cols) false), (52, .int .i64 (colRows b.cols).length), (53, .int .i64 j)], [(3, [.rows 4 [fracV 0 1] none]), (90, [.rows 11 (relRows out) (some [])]), (8, [.rows 3 [a.row] none]), (11, [.rows 3 [b.row] none])], [3, 90, 8, 11]⟩)
          b.cols.length _ ⟨0, o3, by omega, by simp [edgeB], by omega, rfl⟩ ⟨[(3, 3), (90, 90), (8, 8), (11, 11)], [], [], .mq (.ci 3 (.ci 90 (.ci 8 (.ci 11 .nil))))⟩ ?_
        rintro n st ⟨j, out, hj, hout, rfl, rfl⟩
        have hrl := relRows_len out
        (refine gGo ?_; intros)
        refine boolRes_split (fun hb => ?_) (fun hb => ?_) <;> conv => whnf
        · have hjl : j < b.cols.length := by omega
          have hb4 : out.length ≤ 100 * 409600 + 64 * 6400 + 100 * 64 + 64 := by
            have := edgeB_len a i b j
            rw [hout, List.length_append]; omega
          have spO := of29_spec a i b j
          obtain ⟨x, y, r6, r7, r8, r9, r10, hof, hx, hy⟩ := of29_form hak hbk hil hjl
          have hnx : edgeB a i b (j + 1) = edgeB a i b j ++ edgeC a i b j := range_flat _ _
          have hC : edgeC a i b j = if 0 < (x : Int) then [[a.id, (i : Int), b.id, (j : Int), (x : Int), (y : Int), r6, r7, r8, r9, r10]] else [] := by
            unfold edgeC
            rw [hof]; rfl
          rw [hof] at spO
          by_cases hx0 : x = 0
          · subst hx0
            rw [if_neg (by decide)] at hC
            (refine gGo ?_; intros)
            (refine gPC (spO) ?_; conv => whnf)
            (refine gGo ?_; intros)
            refine ⟨_, _, ?_, ⟨j + 1, out, by omega, (by rw [hout, hnx, hC, List.append_nil]), rfl, rfl⟩, ⟨[(3, 3), (90, 90), (8, 8), (11, 11)], [], [], .mq (.ci 3 (.ci 90 (.ci 8 (.ci 11 .nil))))⟩⟩
            omega
          · rw [if_pos (by omega)] at hC
            have spC := contained_spec a.id i b.id j r6 r7 r8 r9 r10 x y hx0 hx hy
            have spL := less23_spec (partF x (x + y)).1 (partF x (x + y)).2 (partF_ok (by omega) (by omega) (by omega))
            generalize (partF x (x + y)).1 = p2 at *
            generalize (partF x (x + y)).2 = q2 at *
            (refine gGo ?_; intros)
            (refine gPC (spO) ?_; conv => whnf)
            (refine gGo ?_; intros)
            (refine gPC (spC) ?_; conv => whnf)
            (refine gGo ?_; intros)
            (refine gPC (spL) ?_; conv => whnf)
            (refine gGo ?_; intros)
            refine ⟨⟨rowsSz_cons rfl rowsSz_nil, rfl⟩, fitsN (n := (relRows out).length + 1) (b := 88) (by omega) (by omega), .inl ⟨rfl, rfl, ?_⟩⟩
            conv => whnf
            (refine gGo ?_; intros)
            refine ⟨_, _, ?_, ⟨j + 1, out ++ [[a.id, (i : Int), b.id, (j : Int), (x : Int), (y : Int), r6, r7, r8, r9, r10]], by omega, (by rw [hout, hnx, hC, List.append_assoc]), rfl, rfl⟩, [(3, 3), (90, 90), (8, 8), (11, 11)], [], [], ?_⟩
            · omega
            · rw [relRows_snoc, List.length_append]
              exact LeG.mq (.ci 3 (.ci 90 (.ci 8 (.ci 11 .nil))))
        · have hje : j = b.cols.length := by omega
          subst hje
          (refine gGo ?_; intros)
          refine ⟨_, _, ?_, ⟨m + 1, out, by omega, (by rw [hout, ho3, htk, edgeR_snoc, List.append_assoc]), rfl, rfl⟩, ⟨[(3, 3), (90, 90), (8, 8)], [], [], .mq (.ci 3 (.ci 90 (.ci 8 .nil)))⟩⟩
          omega
      · have hme : m = bs.length := by omega
        subst hme
        (refine gGo ?_; intros)
        refine ⟨_, _, ?_, ⟨i + 1, o3, by omega, (by rw [ho3, List.take_length, ho2, List.append_assoc, edgeA_succ, hgd, ← hbs]), rfl, rfl⟩, ⟨[(3, 3), (90, 90), (8, 8)], [], [], .mq (.ci 3 (.ci 90 (.ci 8 .nil)))⟩⟩
        omega
    · have hie : i = a.cols.length := by omega
      subst hie
      (refine gGo ?_; intros)
      refine ⟨_, _, ?_, ⟨k + 1, o2, by omega, (by rw [ho2, ho1, edgeL_succ, hgd]), rfl, rfl⟩, ⟨[(3, 3), (90, 90)], [], [], .mq (.ci 3 (.ci 90 .nil))⟩⟩
      omega
  · have hke : k = l.length := by omega
    subst hke
    rw [show edges l = o1 from ho1.symm]
    (refine gGo ?_; intros)
    refine W.leG (mp := []) (bo := [90]) (st' := ⟨[(4, .sl (relRows o1) false), (5, .int .i64 0)], [], []⟩)
      (LeG.mk' rfl rfl rfl ⟨⟨_, Lent.whole rfl rfl rfl rfl (.inl rfl), rfl⟩, ⟨_, .refl _, rfl⟩, trivial⟩ .nil rfl rfl (by rw [hK]; rfl)) ?_
    (refine gM ?_; conv => whnf)
    exact ret0 rfl rfl rfl
end Go.Sx.Sp
namespace Go.Sx.Sp
open Go Go.Sx Go.Proofs
attribute [local irreducible] GoodW famL
def turnL (r : List Int) : List Int := [r.getD 2 0, r.getD 3 0, r.getD 0 0, r.getD 1 0, r.getD 4 0, r.getD 6 0, r.getD 5 0, r.getD 8 0, r.getD 7 0, r.getD 10 0, r.getD 9 0]
def fromC (t : Int) (r : List Int) : List (List Int) := if r.getD 0 0 = t then [r] else if r.getD 2 0 = t then [turnL r] else []
def fromL (E : List (List Int)) (t : Int) : List (List Int) := E.flatMap (fromC t)
def Rel11 (r : List Int) : Prop := r.length = 11
theorem rel11 {r : List Int} (h : Rel11 r) : ∃ r0 r1 r2 r3 r4 r5 r6 r7 r8 r9 r10, r = [r0, r1, r2, r3, r4, r5, r6, r7, r8, r9, r10] := by
  match r, h with
  | [r0, r1, r2, r3, r4, r5, r6, r7, r8, r9, r10], _ => exact ⟨_, _, _, _, _, _, _, _, _, _, _, rfl⟩
theorem of29_11 (a : Table) (i : Int) (b : Table) (j : Int) : Rel11 (of29E a i b j).1 := by
  unfold of29E
  split
  · rfl
  · split
    · rfl
    · rfl
theorem edges_11 (l : List Table) : ∀ r ∈ edges l, Rel11 r := by
  intro r hr
  unfold edges edgeL edgeA edgeR edgeB at hr
  simp only [List.mem_flatMap] at hr
  obtain ⟨k, _, i, _, b, _, j, _, h⟩ := hr
  unfold edgeC at h
  split at h
  · rw [List.mem_singleton.1 h]; exact of29_11 _ _ _ _
  · cases h
theorem from_11 {E : List (List Int)} (h : ∀ r ∈ E, Rel11 r) (t : Int) : ∀ r ∈ fromL E t, Rel11 r := by
  intro r hr
  unfold fromL at hr
  rw [List.mem_flatMap] at hr
  obtain ⟨q, hq, h1⟩ := hr
  unfold fromC at h1
  split at h1
  · rw [List.mem_singleton.1 h1]; exact h q hq
  · split at h1
    · rw [List.mem_singleton.1 h1]; rfl
    · cases h1
theorem fromC_len (t : Int) (r : List Int) : (fromC t r).length ≤ 1 := by
  unfold fromC; split; simp; split <;> simp
theorem from_len (E : List (List Int)) (t : Int) : (fromL E t).length ≤ E.length := by
  have := flat_le (fromC t) 1 E fun r _ => fromC_len t r
  unfold fromL; omega
theorem relRows_get {l : List (List Int)} {i : Nat} (h : i < l.length) : (relRows l)[i]? = some (intsV l[i]) := by simp [relRows, h]
theorem edges_spec (l : List Table) (hv : listB l = true) (hl : l.length ≤ 100) : Spec Tryd.prog 43 [.sl (tblRows l) false] [] (.sl (relRows (edges l)) false) [] := by
  have sp1 := zero23_spec
  have sp2 := build_spec l hv hl
  refine gEn env Tryd.func43 fun Γ hN hK hML => ?_
  (refine gGo ?_; intros)
  (refine gPC (sp1) ?_; conv => whnf)
  (refine gGo ?_; intros)
  (refine gPC (sp2) ?_; conv => whnf)
  (refine gGr ?_; intros)
  exact ret0 rfl rfl rfl
set_option maxHeartbeats 8000000 in
theorem from_spec (E : List (List Int)) (t : Int) (h : ∀ r ∈ E, Rel11 r) (hE : E.length ≤ 100000000) : Spec Tryd.prog 44 [.sl (relRows E) false, .int .i64 t] [] (.sl (relRows (fromL E t)) false) [] := by
  have hel := relRows_len E
  refine gEn env Tryd.func44 fun Γ hN hK hML => ?_
  (refine gGo ?_; intros)
  refine W.ownNil 5 90 11 rfl rfl ?_
  refine W.loopG (fun n st => ∃ (k : Nat) (out : List (List Int)), k ≤ E.length ∧ out = fromL (E.take k) t ∧ n = E.length - k ∧ st = ⟨[(1, .int .i64 t), (5, .osl 90 0 0 (relRows out).length (relRows out).length), (8, .sl (relRows E) false), (9, .int .i64 (relRows E).length), (10, .int .i64 k)], [(90, [.rows 11 (relRows out) (some [])])], [90]⟩)
    E.length _ ⟨0, [], by omega, rfl, by omega, rfl⟩ ⟨[(90, 90)], [], [], .mq (.ci 90 .nil)⟩ ?_
  rintro n st ⟨k, out, hk, hout, rfl, rfl⟩
  have hol := relRows_len out
  (refine gGo ?_; intros)
  refine boolRes_split (fun hb => ?_) (fun hb => ?_) <;> conv => whnf
  · have hkl : k < E.length := by omega
    have hg := relRows_get hkl
    have h11 := h _ (List.getElem_mem hkl)
    have hb1 : out.length ≤ k := by
      have := from_len (E.take k) t
      rw [List.length_take] at this
      rw [hout]; omega
    have hnx : fromL (E.take (k + 1)) t = fromL (E.take k) t ++ fromC t E[k] := by
      unfold fromL
      rw [List.take_succ_eq_append_getElem hkl, List.flatMap_append, List.flatMap_cons, List.flatMap_nil, List.append_nil]
    generalize E[k] = r at *
    obtain ⟨r0, r1, r2, r3, r4, r5, r6, r7, r8, r9, r10, rfl⟩ := rel11 h11
    have hC : fromC t [r0, r1, r2, r3, r4, r5, r6, r7, r8, r9, r10] = if r0 = t then [[r0, r1, r2, r3, r4, r5, r6, r7, r8, r9, r10]] else if r2 = t then [[r2, r3, r0, r1, r4, r6, r5, r8, r7, r10, r9]] else [] := rfl
    (refine gGo ?_; intros)
    refine rowAt_of (by simpa using hg) ?_
    conv => whnf
    (refine gGo ?_; intros)
    refine boolRes_split (fun hb => ?_) (fun hb => ?_) <;> conv => whnf
    · rw [if_pos hb] at hC
      (refine gGo ?_; intros)
      refine ⟨⟨rowsSz_cons rfl rowsSz_nil, rfl⟩, fitsN (n := (relRows out).length + 1) (b := 88) (by omega) (by omega), .inl ⟨rfl, rfl, ?_⟩⟩
      conv => whnf
      (refine gGo ?_; intros)
      refine ⟨_, _, ?_, ⟨k + 1, out ++ [[r0, r1, r2, r3, r4, r5, r6, r7, r8, r9, r10]], by omega, (by rw [hout, hnx, hC]), rfl, rfl⟩, [(90, 90)], [], [], ?_⟩
      · omega
      · rw [relRows_snoc, List.length_append]
        exact LeG.mq (.ci 90 .nil)
    · rw [if_neg hb] at hC
      (refine gGo ?_; intros)
      refine boolRes_split (fun hb => ?_) (fun hb => ?_) <;> conv => whnf
      · rw [if_pos hb] at hC
        have spT := turn29_spec r0 r1 r2 r3 r4 r5 r6 r7 r8 r9 r10
        (refine gGo ?_; intros)
        (refine gPC (spT) ?_; conv => whnf)
        (refine gGo ?_; intros)
        refine ⟨⟨rowsSz_cons rfl rowsSz_nil, rfl⟩, fitsN (n := (relRows out).length + 1) (b := 88) (by omega) (by omega), .inl ⟨rfl, rfl, ?_⟩⟩
        conv => whnf
        (refine gGo ?_; intros)
        refine ⟨_, _, ?_, ⟨k + 1, out ++ [[r2, r3, r0, r1, r4, r6, r5, r8, r7, r10, r9]], by omega, (by rw [hout, hnx, hC]), rfl, rfl⟩, [(90, 90)], [], [], ?_⟩
        · omega
        · rw [relRows_snoc, List.length_append]
          exact LeG.mq (.ci 90 .nil)
      · rw [if_neg hb] at hC
        (refine gGo ?_; intros)
        refine ⟨_, _, ?_, ⟨k + 1, out, by omega, (by rw [hout, hnx, hC, List.append_nil]), rfl, rfl⟩, ⟨[(90, 90)], [], [], .mq (.ci 90 .nil)⟩⟩
        omega
  · have hke : k = E.length := by omega
    subst hke
    rw [List.take_length] at hout
    rw [← hout]
    (refine gGo ?_; intros)
    refine W.leG (mp := []) (bo := [90]) (st' := ⟨[(4, .sl (relRows out) false)], [], []⟩)
      (LeG.mk' rfl rfl rfl ⟨⟨_, Lent.whole rfl rfl rfl rfl (.inl rfl), rfl⟩, trivial⟩ .nil rfl rfl (by rw [hK]; rfl)) ?_
    (refine gM ?_; conv => whnf)
    exact ret0 rfl rfl rfl
end Go.Sx.Sp
namespace Go.Sx.Sp
open Go Go.Sx Go.Proofs
attribute [local irreducible] GoodW famL
structure PS where
  tabs : List Int
  steps : List Stp
  q : Nat
def stpOf (r : List Int) : Stp := ⟨r.getD 0 0, r.getD 1 0, r.getD 2 0, r.getD 3 0⟩
def pathAdd (s : PS) (r : List Int) (q : Nat) : PS := ⟨s.tabs ++ [r.getD 2 0], s.steps ++ [stpOf r], q⟩
def pathE (t : List Int) (E : List (List Int)) (s : PS) : List (List Int) := fromL E (s.tabs.getD (nextV t s.q s.tabs.length).toNat 0)
def pathR (t : List Int) (E : List (List Int)) (s : PS) : List Int := (pathE t E s).getD (nextV t (nextP t s.q) (pathE t E s).length).toNat []
def pathStep (t : List Int) (E : List (List Int)) (s : PS) : PS :=
  if (pathE t E s).length = 0 then ⟨s.tabs, s.steps, nextP t s.q⟩
  else if (pathR t E s).getD 2 0 ∈ s.tabs then
    (if nextV t (nextP t (nextP t s.q)) 20 = 1 then pathAdd s (pathR t E s) (nextP t (nextP t (nextP t s.q))) else ⟨s.tabs, s.steps, nextP t (nextP t (nextP t s.q))⟩)
  else pathAdd s (pathR t E s) (nextP t (nextP t s.q))
def pathGo (t : List Int) (E : List (List Int)) : Nat → PS → PS
  | 0, s => s
  | n + 1, s => pathGo t E n (pathStep t E s)
def pathF (t : List Int) (l : List Table) (q : Nat) : Pth × Nat :=
  let start := (l.getD (nextV t q l.length).toNat Table.zero).id
  let s := pathGo t (edges l) (nextV t (nextP t q) 4).toNat ⟨[start], [], nextP t (nextP t q)⟩
  (⟨start, s.steps⟩, s.q)
theorem ints_pure (k : IntKind) (l : List Int) : ∀ r ∈ intRows k l, ∀ v ∈ r, v.sites = [] := by
  intro r hr v hv
  obtain ⟨x, _, rfl⟩ := List.mem_map.1 hr
  rw [List.mem_singleton.1 hv]; rfl
set_option maxHeartbeats 32000000 in
theorem path_spec (t : List Int) (l : List Table) (q : Nat) (hv : listB l = true) (hl : l.length ≤ 100) (hl0 : 0 < l.length) (hq : q ≤ t.length) : Spec Tryd.prog 17 [.bp 0 0, .sl (tblRows l) false] [(0, diceB t q)] (.agg (pathF t l q).1.row) [(0, diceB t (pathF t l q).2)] := by
  have htl := tblRows_len l
  have hq1 := nextP_le hq
  have hq2 := nextP_le hq1
  have s1 := next_spec t q (tblRows l).length (by omega) hq
  have r1 := nextV_range t q (n := (l.length : Int)) (by omega)
  have s2 := next_spec t (nextP t q) 4 (by omega) hq1
  have r2 := nextV_range t (nextP t q) (n := 4) (by omega)
  have sE := edges_spec l hv hl
  have h11 := edges_11 l
  have hEl : (edges l).length ≤ 40960000 := by
    have hcols : ∀ b ∈ l, b.cols.length ≤ 64 := fun b hb => by
      have := listB_valid hv b hb
      unfold validB headB at this
      simp only [Bool.and_eq_true, decide_eq_true_eq] at this
      exact this.1.1.2
    have := edgeL_len hcols hl (Nat.le_refl _)
    unfold edges; omega
  have hF : pathF t l q = (⟨(l.getD (nextV t q l.length).toNat Table.zero).id, (pathGo t (edges l) (nextV t (nextP t q) 4).toNat ⟨[(l.getD (nextV t q l.length).toNat Table.zero).id], [], nextP t (nextP t q)⟩).steps⟩, (pathGo t (edges l) (nextV t (nextP t q) 4).toNat ⟨[(l.getD (nextV t q l.length).toNat Table.zero).id], [], nextP t (nextP t q)⟩).q) := rfl
  rw [hF]
  clear hF
  rw [htl] at s1
  obtain ⟨i, hi⟩ := Int.eq_ofNat_of_zero_le r1.1
  obtain ⟨K, hK2⟩ := Int.eq_ofNat_of_zero_le r2.1
  rw [hi] at r1 s1 ⊢
  rw [hK2] at r2 s2 ⊢
  rw [Int.toNat_natCast, Int.toNat_natCast]
  have hil : i < l.length := by omega
  have hg := tblRows_get hil
  have hgd : l.getD i Table.zero = l[i] := by simp [hil]
  rw [hgd]
  generalize l[i] = x at *
  generalize edges l = E at *
  generalize nextP t (nextP t q) = q2 at *
  generalize nextP t q = q1 at *
  rw [← htl] at s1
  refine gEn env Tryd.func17 fun Γ hN hK hML => ?_
  (refine gGo ?_; intros)
  (refine gCA [(0, 0)] [] [] (s1) ?_; conv => whnf)
  (refine gGo ?_; intros)
  refine rowAt_of (by simpa using hg) ?_
  conv => whnf
  (refine gGl ?_; intros)
  refine Or.inl ?_
  conv => whnf
  (refine gGo ?_; intros)
  (refine gPC (sE) ?_; conv => whnf)
  (refine gGo ?_; intros)
  (refine gCA [(0, 0)] [] [] (s2) ?_; conv => whnf)
  (refine gGo ?_; intros)
  refine W.ownCell 5 0 1 91 4 rfl rfl rfl rfl rfl ?_
  refine W.leG (mp := [(0, 0), (4, 4), (5, 5), (25, 25), (91, 91)]) (bo := []) (st' := ⟨[(0, .bp 0 0), (4, .bp 4 0), (5, .bp 5 0), (6, .osl 25 0 0 1 1), (7, .sl (relRows E) false), (8, .int .i64 K)], [(0, [diceB t q2]), (4, [.rows 2 [[.int .i64 0, .nils]] none]), (5, [.rows 2 [[.int .i64 x.id, .osl 91 0 0 0 0]] none]), (25, [.rows 1 (intRows .i64 [x.id]) (some [])]), (91, [.rows 4 [] (some [])])], [0, 4, 5, 25, 91]⟩)
    (LeG.mq (.ci 0 (.ci 4 (.ci 5 (.cons 25 (b1 := .rows 1 (intRows .i64 [x.id]) (some [])) rfl rfl (.pure _ _ _ (ints_pure .i64 [x.id])) rfl (.ci 91 .nil)))))) ?_
  generalize x.id = start at *
  refine W.loopG (fun n st => ∃ (k : Nat) (s : PS), k ≤ K ∧ s.q ≤ t.length ∧ s.tabs ≠ [] ∧ s.tabs.length + k ≤ K + 1 ∧ s.steps.length + k ≤ K ∧ pathGo t E K ⟨[start], [], q2⟩ = pathGo t E k s ∧ n = k ∧ st = ⟨[(0, .bp 0 0), (4, .bp 4 0), (5, .bp 5 0), (6, .osl 25 0 0 (intRows .i64 s.tabs).length (intRows .i64 s.tabs).length), (7, .sl (relRows E) false), (8, .int .i64 k)], [(0, [diceB t (s.q)]), (4, [.rows 2 [[.int .i64 0, .nils]] none]), (5, [.rows 2 [[.int .i64 start, .osl 91 0 0 (stpRows s.steps).length (stpRows s.steps).length]] none]), (25, [.rows 1 (intRows .i64 s.tabs) (some [])]), (91, [.rows 4 (stpRows s.steps) (some [])])], [0, 4, 5, 25, 91]⟩)
    K _ ⟨K, ⟨[start], [], q2⟩, by omega, hq2, by simp, (by show 1 + K ≤ K + 1; omega), (by show 0 + K ≤ K; omega), rfl, rfl, rfl⟩ ⟨[(0, 0), (4, 4), (5, 5), (25, 25), (91, 91)], [], [], .mq (.ci 0 (.ci 4 (.ci 5 (.ci 25 (.ci 91 .nil)))))⟩ ?_
  rintro n st ⟨k, s, hk, hsq, hne, htl2, hsl, hgo, rfl, rfl⟩
  (refine gGo ?_; intros)
  refine boolRes_split (fun hb => ?_) (fun hb => ?_) <;> conv => whnf
  · obtain ⟨m, rfl⟩ : ∃ m, n = m + 1 := ⟨n - 1, by omega⟩
    have hto : 0 < s.tabs.length := List.length_pos_iff.2 hne
    have hti := intRows_len .i64 s.tabs
    have hse := stpRows_len s.steps
    have g1 := nextP_le hsq
    have g2 := nextP_le g1
    have g3 := nextP_le g2
    have n1 := next_spec t s.q s.tabs.length (by omega) hsq
    have v1 := nextV_range t s.q (n := (s.tabs.length : Int)) (by omega)
    have hstep : pathGo t E (m + 1) s = pathGo t E m (pathStep t E s) := rfl
    obtain ⟨i1, hi1⟩ := Int.eq_ofNat_of_zero_le v1.1
    have hPE : pathE t E s = fromL E (s.tabs.getD i1 0) := by unfold pathE; rw [hi1, Int.toNat_natCast]
    rw [hi1] at v1 n1
    rw [← hti] at n1
    have hi1l : i1 < s.tabs.length := by omega
    have hg1 := intRows_get (k := .i64) hi1l
    have hgd1 : s.tabs.getD i1 0 = s.tabs[i1] := by simp [hi1l]
    rw [hgd1] at hPE
    have spF := from_spec E s.tabs[i1] h11 (by omega)
    have hFl := from_len E s.tabs[i1]
    have h11F := from_11 h11 s.tabs[i1]
    rw [← hPE] at spF hFl h11F
    have hPR : pathR t E s = (pathE t E s).getD (nextV t (nextP t s.q) (pathE t E s).length).toNat [] := rfl
    have hpS : pathStep t E s = if (pathE t E s).length = 0 then ⟨s.tabs, s.steps, nextP t s.q⟩ else if (pathR t E s).getD 2 0 ∈ s.tabs then (if nextV t (nextP t (nextP t s.q)) 20 = 1 then pathAdd s (pathR t E s) (nextP t (nextP t (nextP t s.q))) else ⟨s.tabs, s.steps, nextP t (nextP t (nextP t s.q))⟩) else pathAdd s (pathR t E s) (nextP t (nextP t s.q)) := rfl
    generalize pathR t E s = r at *
    generalize pathE t E s = e at *
    have hel := relRows_len e
    generalize s.tabs[i1] = ti at *
    (refine gGo ?_; intros)
    (refine gCA [(0, 0)] [] [] (n1) ?_; conv => whnf)
    (refine gGo ?_; intros)
    refine rowAt_of (r := [.int .i64 ti]) (by rw [Nat.zero_add, Int.toNat_natCast]; exact hg1) ?_
    conv => whnf
    (refine gGo ?_; intros)
    (refine gPC (spF) ?_; conv => whnf)
    (refine gGs ?_; intros)
    refine W.leG (mp := [(0, 0), (4, 4), (5, 5), (25, 25), (91, 91)]) (bo := []) (st' := ⟨[(0, .bp 0 0), (4, .bp 4 0), (5, .bp 5 0), (6, .osl 25 0 0 (intRows .i64 s.tabs).length (intRows .i64 s.tabs).length), (7, .sl (relRows E) false), (8, .int .i64 ((m + 1 : Nat) : Int)), (9, .sl (relRows e) false)], [(0, [diceB t (nextP t s.q)]), (4, [.rows 2 [[.int .i64 0, .nils]] none]), (5, [.rows 2 [[.int .i64 start, .osl 91 0 0 (stpRows s.steps).length (stpRows s.steps).length]] none]), (25, [.rows 1 (intRows .i64 s.tabs) (some [])]), (91, [.rows 4 (stpRows s.steps) (some [])])], [0, 4, 5, 25, 91]⟩)
      (LeG.mq (.ci 0 (.ci 4 (.ci 5 (.ci 25 (.ci 91 .nil)))))) ?_
    by_cases he0 : e.length = 0
    · rw [if_pos he0] at hpS
      (refine gGo ?_; intros)
      refine ⟨_, _, ?_, ⟨m, ⟨s.tabs, s.steps, nextP t s.q⟩, by omega, g1, hne, (by show s.tabs.length + m ≤ _; omega), (by show s.steps.length + m ≤ _; omega), (by rw [hgo, hstep, hpS]), rfl, rfl⟩, ⟨[(0, 0), (4, 4), (5, 5), (25, 25), (91, 91)], [], [], LeG.mk' rfl rfl rfl (⟨⟨_, .refl _, rfl⟩, ⟨_, .refl _, rfl⟩, ⟨_, .refl _, rfl⟩, ⟨_, .refl _, rfl⟩, ⟨_, .refl _, rfl⟩, ⟨_, .refl _, (by show V.int .i64 (((m + 1 : Nat) : Int) - 1) = _; congr 1; omega)⟩, trivial⟩) (.ci 0 (.ci 4 (.ci 5 (.ci 25 (.ci 91 .nil))))) rfl rfl (by rw [hK]; rfl)⟩⟩
      omega
    · rw [if_neg he0] at hpS
      have n2 := next_spec t (nextP t s.q) e.length (by omega) g1
      have v2 := nextV_range t (nextP t s.q) (n := (e.length : Int)) (by omega)
      obtain ⟨i2, hi2⟩ := Int.eq_ofNat_of_zero_le v2.1
      rw [hi2] at v2 n2 hPR
      rw [← hel] at n2
      rw [Int.toNat_natCast] at hPR
      have hi2l : i2 < e.length := by omega
      have hg2 := relRows_get hi2l
      have hgd2 : e.getD i2 [] = e[i2] := by simp [hi2l]
      rw [hgd2] at hPR
      have hr11 := h11F _ (List.getElem_mem hi2l)
      rw [← hPR] at hg2 hr11
      clear hPR hgd2
      obtain ⟨r0, r1, r2, r3, r4, r5, r6, r7, r8, r9, r10, rfl⟩ := rel11 hr11
      have hpA : ∀ q, pathAdd s [r0, r1, r2, r3, r4, r5, r6, r7, r8, r9, r10] q = ⟨s.tabs ++ [r2], s.steps ++ [Stp.mk r0 r1 r2 r3], q⟩ := fun q => rfl
      rw [hpA, hpA, show [r0, r1, r2, r3, r4, r5, r6, r7, r8, r9, r10].getD 2 0 = r2 from rfl] at hpS
      generalize nextP t (nextP t s.q) = q3 at *
      generalize nextP t s.q = q1' at *
      (refine gGo ?_; intros)
      (refine gCA [(0, 0)] [] [] (n2) ?_; conv => whnf)
      (refine gGo ?_; intros)
      refine rowAt_of (by simpa using hg2) ?_
      conv => whnf
      (refine gGo ?_; intros)
      refine W.leG (mp := [(0, 0), (4, 4), (5, 5), (25, 25), (91, 91), (10, 10)]) (bo := []) (st' := ⟨[(0, .bp 0 0), (4, .bp 4 0), (5, .bp 5 0), (6, .osl 25 0 0 (intRows .i64 s.tabs).length (intRows .i64 s.tabs).length), (7, .sl (relRows E) false), (8, .int .i64 ((m + 1 : Nat) : Int)), (10, .bp 10 0), (11, .bool false), (53, .osl 25 0 0 (intRows .i64 s.tabs).length (intRows .i64 s.tabs).length), (54, .int .i64 (intRows .i64 s.tabs).length), (55, .int .i64 0)], [(0, [diceB t (q3)]), (4, [.rows 2 [[.int .i64 0, .nils]] none]), (5, [.rows 2 [[.int .i64 start, .osl 91 0 0 (stpRows s.steps).length (stpRows s.steps).length]] none]), (25, [.rows 1 (intRows .i64 s.tabs) (some [])]), (91, [.rows 4 (stpRows s.steps) (some [])]), (10, [.rows 11 [intsV [r0, r1, r2, r3, r4, r5, r6, r7, r8, r9, r10]] none])], [0, 4, 5, 25, 91, 10]⟩)
        (LeG.mq (.ci 0 (.ci 4 (.ci 5 (.ci 25 (.ci 91 (.ci 10 .nil))))))) ?_
      refine W.loopG (fun n st => ∃ j : Nat, j ≤ s.tabs.length ∧ n = s.tabs.length - j ∧ st = ⟨[(0, .bp 0 0), (4, .bp 4 0), (5, .bp 5 0), (6, .osl 25 0 0 (intRows .i64 s.tabs).length (intRows .i64 s.tabs).length), (7, .sl (relRows E) false), (8, .int .i64 ((m + 1 : Nat) : Int)), (10, .bp 10 0), (11, .bool (decide (r2 ∈ s.tabs.take j))), (53, .osl 25 0 0 (intRows .i64 s.tabs).length (intRows .i64 s.tabs).length), (54, .int .i64 (intRows .i64 s.tabs).length), (55, .int .i64 j)], [(0, [diceB t (q3)]), (4, [.rows 2 [[.int .i64 0, .nils]] none]), (5, [.rows 2 [[.int .i64 start, .osl 91 0 0 (stpRows s.steps).length (stpRows s.steps).length]] none]), (25, [.rows 1 (intRows .i64 s.tabs) (some [])]), (91, [.rows 4 (stpRows s.steps) (some [])]), (10, [.rows 11 [intsV [r0, r1, r2, r3, r4, r5, r6, r7, r8, r9, r10]] none])], [0, 4, 5, 25, 91, 10]⟩)
        s.tabs.length _ ⟨0, by omega, by omega, rfl⟩ ⟨[(0, 0), (4, 4), (5, 5), (25, 25), (91, 91), (10, 10)], [], [], .mq (.ci 0 (.ci 4 (.ci 5 (.ci 25 (.ci 91 (.ci 10 .nil))))))⟩ ?_
      rintro n st ⟨j, hj, rfl, rfl⟩
      (refine gGo ?_; intros)
      refine boolRes_split (fun hb => ?_) (fun hb => ?_) <;> conv => whnf
      · have hjl : j < s.tabs.length := by omega
        have hgj := intRows_get (k := .i64) hjl
        have htk : decide (r2 ∈ s.tabs.take (j + 1)) = (decide (r2 ∈ s.tabs.take j) || decide (s.tabs[j] = r2)) := by
          rw [List.take_succ_eq_append_getElem hjl, Bool.eq_iff_iff]
          simp only [decide_eq_true_eq, Bool.or_eq_true, List.mem_append, List.mem_singleton]
          exact ⟨fun h => h.imp id Eq.symm, fun h => h.imp id Eq.symm⟩
        generalize s.tabs[j] = tj at *
        cases hd : decide (r2 ∈ s.tabs.take j) with
        | true =>
          rw [hd, Bool.true_or] at htk
          (refine gGo ?_; intros)
          refine rowAt_of (r := [.int .i64 tj]) (by rw [Nat.zero_add, Int.toNat_natCast]; exact hgj) ?_
          conv => whnf
          (refine gGo ?_; intros)
          refine ⟨_, _, ?_, ⟨j + 1, by omega, rfl, rfl⟩, ?_⟩
          · omega
          · rw [htk]; exact ⟨[(0, 0), (4, 4), (5, 5), (25, 25), (91, 91), (10, 10)], [], [], .mq (.ci 0 (.ci 4 (.ci 5 (.ci 25 (.ci 91 (.ci 10 .nil))))))⟩
        | false =>
          rw [hd, Bool.false_or] at htk
          (refine gGo ?_; intros)
          refine rowAt_of (r := [.int .i64 tj]) (by rw [Nat.zero_add, Int.toNat_natCast]; exact hgj) ?_
          conv => whnf
          (refine gGo ?_; intros)
          refine boolRes_split (fun hb => ?_) (fun hb => ?_) <;> conv => whnf
          · rw [decide_eq_true hb] at htk
            (refine gGo ?_; intros)
            refine ⟨_, _, ?_, ⟨j + 1, by omega, rfl, rfl⟩, ?_⟩
            · omega
            · rw [htk]; exact ⟨[(0, 0), (4, 4), (5, 5), (25, 25), (91, 91), (10, 10)], [], [], .mq (.ci 0 (.ci 4 (.ci 5 (.ci 25 (.ci 91 (.ci 10 .nil))))))⟩
          · rw [decide_eq_false hb] at htk
            (refine gGo ?_; intros)
            refine ⟨_, _, ?_, ⟨j + 1, by omega, rfl, rfl⟩, ?_⟩
            · omega
            · rw [htk]; exact ⟨[(0, 0), (4, 4), (5, 5), (25, 25), (91, 91), (10, 10)], [], [], .mq (.ci 0 (.ci 4 (.ci 5 (.ci 25 (.ci 91 (.ci 10 .nil))))))⟩
      · have hje : j = s.tabs.length := by omega
        subst hje
        rw [List.take_length]
        have hap : intRows .i64 (s.tabs ++ [r2]) = intRows .i64 s.tabs ++ [[.int .i64 r2]] := by simp [intRows]
        have hsp := stpRows_snoc s.steps ⟨r0, r1, r2, r3⟩
        cases htw : decide (r2 ∈ s.tabs) with
        | false =>
          rw [if_neg (of_decide_eq_false htw)] at hpS
          (refine gGo ?_; intros)
          refine ⟨⟨rowsSz_cons rfl rowsSz_nil, rfl⟩, fitsN (n := (stpRows s.steps).length + 1) (b := 32) (by omega) (by omega), .inl ⟨rfl, rfl, ?_⟩⟩
          conv => whnf
          (refine gGo ?_; intros)
          refine ⟨⟨rowsSz_cons rfl rowsSz_nil, rfl⟩, fitsN (n := (intRows .i64 s.tabs).length + 1) (b := 8) (by omega) (by omega), .inl ⟨rfl, rfl, ?_⟩⟩
          conv => whnf
          (refine gGo ?_; intros)
          refine ⟨_, _, ?_, ⟨m, ⟨s.tabs ++ [r2], s.steps ++ [Stp.mk r0 r1 r2 r3], q3⟩, by omega, g2, by simp, (by show (s.tabs ++ [r2]).length + m ≤ _; rw [List.length_append, List.length_singleton]; omega), (by show (s.steps ++ [Stp.mk r0 r1 r2 r3]).length + m ≤ _; rw [List.length_append, List.length_singleton]; omega), (by rw [hgo, hstep, hpS]), rfl, rfl⟩, ?_⟩
          · omega
          · show LeX _ _ (⟨[(0, .bp 0 0), (4, .bp 4 0), (5, .bp 5 0), (6, .osl 25 0 0 (intRows .i64 (s.tabs ++ [r2])).length (intRows .i64 (s.tabs ++ [r2])).length), (7, .sl (relRows E) false), (8, .int .i64 m)], [(0, [diceB t (q3)]), (4, [.rows 2 [[.int .i64 0, .nils]] none]), (5, [.rows 2 [[.int .i64 start, .osl 91 0 0 (stpRows (s.steps ++ [Stp.mk r0 r1 r2 r3])).length (stpRows (s.steps ++ [Stp.mk r0 r1 r2 r3])).length]] none]), (25, [.rows 1 (intRows .i64 (s.tabs ++ [r2])) (some [])]), (91, [.rows 4 (stpRows (s.steps ++ [Stp.mk r0 r1 r2 r3])) (some [])])], [0, 4, 5, 25, 91]⟩)
            rw [hap, hsp, List.length_append, List.length_append]
            exact ⟨[(0, 0), (4, 4), (5, 5), (25, 25), (91, 91)], [], [], LeG.mk' rfl rfl rfl (⟨⟨_, .refl _, rfl⟩, ⟨_, .refl _, rfl⟩, ⟨_, .refl _, rfl⟩, ⟨_, .refl _, rfl⟩, ⟨_, .refl _, rfl⟩, ⟨_, .refl _, (by show V.int .i64 (((m + 1 : Nat) : Int) - 1) = _; congr 1; omega)⟩, trivial⟩) (.ci 0 (.ci 4 (.ci 5 (.ci 25 (.ci 91 .nil))))) rfl rfl (by rw [hK]; rfl)⟩
        | true =>
          rw [if_pos (of_decide_eq_true htw)] at hpS
          have n3 := next_spec t q3 20 (by omega) g2
          (refine gGo ?_; intros)
          (refine gCA [(0, 0)] [] [] (n3) ?_; conv => whnf)
          (refine gGo ?_; intros)
          refine boolRes_split (fun hb => ?_) (fun hb => ?_) <;> conv => whnf
          · rw [if_neg hb] at hpS
            (refine gGo ?_; intros)
            refine ⟨_, _, ?_, ⟨m, ⟨s.tabs, s.steps, nextP t q3⟩, by omega, g3, hne, (by show s.tabs.length + m ≤ _; omega), (by show s.steps.length + m ≤ _; omega), (by rw [hgo, hstep, hpS]), rfl, rfl⟩, ⟨[(0, 0), (4, 4), (5, 5), (25, 25), (91, 91)], [], [], LeG.mk' rfl rfl rfl (⟨⟨_, .refl _, rfl⟩, ⟨_, .refl _, rfl⟩, ⟨_, .refl _, rfl⟩, ⟨_, .refl _, rfl⟩, ⟨_, .refl _, rfl⟩, ⟨_, .refl _, (by show V.int .i64 (((m + 1 : Nat) : Int) - 1) = _; congr 1; omega)⟩, trivial⟩) (.ci 0 (.ci 4 (.ci 5 (.ci 25 (.ci 91 .nil))))) rfl rfl (by rw [hK]; rfl)⟩⟩
            omega
          · rw [if_pos (by omega)] at hpS
            (refine gGo ?_; intros)
            refine ⟨⟨rowsSz_cons rfl rowsSz_nil, rfl⟩, fitsN (n := (stpRows s.steps).length + 1) (b := 32) (by omega) (by omega), .inl ⟨rfl, rfl, ?_⟩⟩
            conv => whnf
            (refine gGo ?_; intros)
            refine ⟨⟨rowsSz_cons rfl rowsSz_nil, rfl⟩, fitsN (n := (intRows .i64 s.tabs).length + 1) (b := 8) (by omega) (by omega), .inl ⟨rfl, rfl, ?_⟩⟩
            conv => whnf
            (refine gGo ?_; intros)
            refine ⟨_, _, ?_, ⟨m, ⟨s.tabs ++ [r2], s.steps ++ [Stp.mk r0 r1 r2 r3], nextP t q3⟩, by omega, g3, by simp, (by show (s.tabs ++ [r2]).length + m ≤ _; rw [List.length_append, List.length_singleton]; omega), (by show (s.steps ++ [Stp.mk r0 r1 r2 r3]).length + m ≤ _; rw [List.length_append, List.length_singleton]; omega), (by rw [hgo, hstep, hpS]), rfl, rfl⟩, ?_⟩
            · omega
            · show LeX _ _ (⟨[(0, .bp 0 0), (4, .bp 4 0), (5, .bp 5 0), (6, .osl 25 0 0 (intRows .i64 (s.tabs ++ [r2])).length (intRows .i64 (s.tabs ++ [r2])).length), (7, .sl (relRows E) false), (8, .int .i64 m)], [(0, [diceB t (nextP t q3)]), (4, [.rows 2 [[.int .i64 0, .nils]] none]), (5, [.rows 2 [[.int .i64 start, .osl 91 0 0 (stpRows (s.steps ++ [Stp.mk r0 r1 r2 r3])).length (stpRows (s.steps ++ [Stp.mk r0 r1 r2 r3])).length]] none]), (25, [.rows 1 (intRows .i64 (s.tabs ++ [r2])) (some [])]), (91, [.rows 4 (stpRows (s.steps ++ [Stp.mk r0 r1 r2 r3])) (some [])])], [0, 4, 5, 25, 91]⟩)
              rw [hap, hsp, List.length_append, List.length_append]
              exact ⟨[(0, 0), (4, 4), (5, 5), (25, 25), (91, 91)], [], [], LeG.mk' rfl rfl rfl (⟨⟨_, .refl _, rfl⟩, ⟨_, .refl _, rfl⟩, ⟨_, .refl _, rfl⟩, ⟨_, .refl _, rfl⟩, ⟨_, .refl _, rfl⟩, ⟨_, .refl _, (by show V.int .i64 (((m + 1 : Nat) : Int) - 1) = _; congr 1; omega)⟩, trivial⟩) (.ci 0 (.ci 4 (.ci 5 (.ci 25 (.ci 91 .nil))))) rfl rfl (by rw [hK]; rfl)⟩
  · have hn0 : n = 0 := by omega
    subst hn0
    have hgo : pathGo t E K ⟨[start], [], q2⟩ = s := hgo
    rw [hgo]
    (refine gGo ?_; intros)
    refine W.leG (mp := [(0, 0), (4, 4)]) (bo := [91]) (st' := ⟨[(4, .bp 4 0)], [(0, [diceB t s.q]), (4, [.rows 2 [Pth.row ⟨start, s.steps⟩] none])], [0, 4]⟩)
      (LeG.mq (.ci 0 (.cons 4 (b1 := .rows 2 [Pth.row ⟨start, s.steps⟩] none) rfl rfl (.rows _ _ _ (by repeat' (first | exact trivial | exact ⟨Lent.refl _, rfl⟩ | exact ⟨Lent.norm _, rfl⟩ | exact ⟨Lent.whole rfl rfl (by first | rfl | exact List.length_append.symm | exact hlenR | simp) rfl (by first | exact .inl rfl | exact .inr rfl), rfl⟩ | apply And.intro))) rfl .nil))) ?_
    (refine gM ?_; conv => whnf)
    exact retH rfl (.refl _) rfl rfl rfl ⟨rfl, rfl, trivial⟩
end Go.Sx.Sp
namespace Go.Sx.Sp
open Go Go.Sx Go.Proofs
attribute [local irreducible] GoodW famL
set_option maxHeartbeats 4000000 in
theorem get3_spec (l : List Table) (t c : Int) : Spec Tryd.prog 46 [.sl (tblRows l) false, .agg [.int .i64 t, .int .i64 c]] [] (.tup [.agg ((getC l t c).getD Column.zero).row, .bool (getC l t c).isSome]) [] := by
  have sp := find3_spec l t
  refine gEn env Tryd.func46 fun Γ hN hK hML => ?_
  (refine gGo ?_; intros)
  cases hf : findT l t with
  | none =>
    rw [hf] at sp
    (refine gPC (sp) ?_; conv => whnf)
    have hg : getC l t c = none := by unfold getC; rw [hf]
    rw [hg]
    (refine gGo ?_; intros)
    (refine gM ?_; conv => whnf)
    exact retH rfl (.norm _) rfl rfl rfl trivial
  | some tb =>
    rw [hf] at sp
    simp only [Option.getD_some, Option.isSome_some] at sp
    (refine gPC (sp) ?_; conv => whnf)
    have hcl := colRows_len tb.cols
    by_cases hc : 0 ≤ c ∧ c < tb.cols.length
    · obtain ⟨k, rfl⟩ : ∃ k : Nat, c = k := ⟨c.toNat, by omega⟩
      have hk : k < tb.cols.length := by omega
      have hg : getC l t k = some tb.cols[k] := by
        unfold getC; rw [hf]
        simp only
        rw [if_pos hc, Int.toNat_natCast, List.getElem?_eq_getElem hk]
      have hx := colRows_get hk
      rw [hg]
      generalize tb.cols[k] = col at *
      (refine gGo ?_; intros)
      refine rowAt_of (by simpa using hx) ?_
      conv => whnf
      (refine gGo ?_; intros)
      (refine gM ?_; conv => whnf)
      exact retH rfl (.norm _) rfl rfl rfl trivial
    · have hg : getC l t c = none := by
        unfold getC; rw [hf]
        simp only
        rw [if_neg hc]
      rw [hg]
      by_cases h0 : c < 0
      · (refine gGo ?_; intros)
        (refine gM ?_; conv => whnf)
        exact retH rfl (.norm _) rfl rfl rfl trivial
      · (refine gGo ?_; intros)
        (refine gM ?_; conv => whnf)
        exact retH rfl (.norm _) rfl rfl rfl trivial
def placeZ (p : Pth) (n : Nat) (t : Int) : Int := match ixI t (befT p n) with | some i => (i : Int) | none => -1
theorem ixI_app {t : Int} : ∀ {a b : List Int}, ixI t (a ++ b) = match ixI t a with | some j => some j | none => (ixI t b).map (· + a.length)
  | [], b => by simp [ixI]
  | u :: a, b => by
    by_cases h : t = u
    · simp [ixI, h]
    · simp only [List.cons_append, ixI, h, if_false, ixI_app (a := a)]
      cases ixI t a with
      | some j => rfl
      | none =>
        simp only [Option.map_none]
        cases ixI t b with
        | none => rfl
        | some j => simp only [Option.map_some, List.length_cons]; congr 1
set_option maxHeartbeats 4000000 in
theorem place_spec (p : Pth) (n : Nat) (t : Int) (hn : n ≤ p.steps.length) (hl : p.steps.length ≤ 100) : Spec Tryd.prog 38 [.agg p.row, .int .i64 n, .int .i64 t] [] (.int .i64 (placeZ p n t)) [] := by
  have hsl := stpRows_len p.steps
  refine gEn env Tryd.func38 fun Γ hN hK hML => ?_
  (refine gGo ?_; intros)
  refine boolRes_split (fun hb => ?_) (fun hb => ?_) <;> conv => whnf
  · have hz : placeZ p n t = 0 := by
      unfold placeZ befT
      simp only [ixI, hb, if_true]; rfl
    rw [hz]
    (refine gGr ?_; intros)
    exact ret0 rfl rfl rfl
  · have hz0 : ixI t (befT p 0) = none := by
      show (if t = p.start then some 0 else _) = none
      rw [if_neg (fun e => hb e.symm)]; rfl
    obtain ⟨S, hS⟩ : ∃ S, S = p.steps.take n := ⟨_, rfl⟩
    have hSl : S.length = n := by rw [hS, List.length_take]; omega
    have hSr := stpRows_len S
    have hdr : ((stpRows p.steps).take (n : Int).toNat).drop (0 : Int).toNat = stpRows S := by
      rw [Int.toNat_natCast, hS]
      unfold stpRows
      rw [List.map_take]; rfl
    (refine gGo ?_; intros)
    refine ⟨?_, ?_⟩
    · unfold rowsSz
      intro r hr
      obtain ⟨s, _, rfl⟩ := List.mem_map.1 hr
      rfl
    conv => whnf
    rw [hdr]
    (refine gGo ?_; intros)
    refine W.loopG (fun m st => ∃ k : Nat, k ≤ n ∧ ixI t (befT p k) = none ∧ m = n - k ∧ st = ⟨[(2, .int .i64 t), (16, .sl (stpRows S) false), (17, .int .i64 (stpRows S).length), (18, .int .i64 k)], [], []⟩)
      n _ ⟨0, by omega, hz0, by omega, rfl⟩ ⟨[], [], [], .mq .nil⟩ ?_
    rintro m st ⟨k, hk, hz, rfl, rfl⟩
    (refine gGo ?_; intros)
    refine boolRes_split (fun hb => ?_) (fun hb => ?_) <;> conv => whnf
    · have hkn : k < n := by omega
      have hkS : k < S.length := by omega
      have hg := stpRows_get hkS
      have hSk : S[k] = p.steps[k] := by subst hS; simp
      have hsn := befT_snoc p (show k < p.steps.length by omega)
      have hix : ixI t (befT p (k + 1)) = if t = p.steps[k].tt then some (k + 1) else none := by
        rw [hsn, ixI_app, hz]
        simp only [ixI]
        rw [befT_len p (by omega)]
        split
        · simp
        · rfl
      rw [hSk] at hg
      generalize p.steps[k] = s at *
      (refine gGo ?_; intros)
      refine rowAt_of (by simpa using hg) ?_
      conv => whnf
      (refine gGo ?_; intros)
      refine boolRes_split (fun hb => ?_) (fun hb => ?_) <;> conv => whnf
      · rw [if_pos hb.symm] at hix
        have hz2 : placeZ p n t = ((k + 1 : Nat) : Int) := by
          unfold placeZ
          have : ∃ L, befT p n = befT p (k + 1) ++ L := by
            unfold befT
            refine ⟨((p.steps.take n).drop (k + 1)).map Stp.tt, ?_⟩
            rw [List.cons_append, ← List.map_append]
            congr 2
            rw [show p.steps.take (k + 1) = (p.steps.take n).take (k + 1) by rw [List.take_take, Nat.min_eq_left (by omega)], List.take_append_drop]
          obtain ⟨L, hL⟩ := this
          rw [hL, ixI_app, hix]
        rw [hz2]
        (refine gGr ?_; intros)
        exact ret0 rfl rfl rfl
      · rw [if_neg (fun e => hb e.symm)] at hix
        (refine gGo ?_; intros)
        refine ⟨_, _, ?_, ⟨k + 1, by omega, hix, rfl, rfl⟩, ⟨[], [], [], .mq .nil⟩⟩
        omega
    · have hke : k = n := by omega
      subst hke
      have hz2 : placeZ p k t = -1 := by unfold placeZ; rw [hz]
      rw [hz2]
      (refine gGr ?_; intros)
      exact ret0 rfl rfl rfl
end Go.Sx.Sp
namespace Go.Sx.Sp
open Go Go.Sx Go.Proofs
attribute [local irreducible] GoodW famL
theorem placeZ_mem (p : Pth) (n : Nat) (t : Int) : 0 ≤ placeZ p n t ↔ t ∈ befT p n := by
  unfold placeZ
  cases h : ixI t (befT p n) with
  | none => simp [ixI_none.1 h]
  | some i =>
    have := List.mem_of_getElem? (ixI_at h)
    simp [this]
set_option maxHeartbeats 16000000 in
theorem valid31_spec (l : List Table) (p : Pth) : Spec Tryd.prog 18 [.sl (tblRows l) false, .agg p.row] [] (.int .i64 (validE l p)) [] := by
  have sp1 := validList3_spec l
  have hsl := stpRows_len p.steps
  refine gEn env Tryd.func18 fun Γ hN hK hML => ?_
  cases hlb : listB l with
  | false =>
    have hE : validE l p = 1 := by unfold validE; rw [if_neg (by rw [hlb]; decide)]
    rw [hlb] at sp1
    rw [hE]
    (refine gGo ?_; intros)
    (refine gPC (sp1) ?_; conv => whnf)
    (refine gGr ?_; intros)
    exact ret0 rfl rfl rfl
  | true =>
    rw [hlb] at sp1
    by_cases h4 : p.steps.length ≤ 4
    · have hE : validE l p = if pathB l p = true then 0 else 21 := by unfold validE; rw [if_pos hlb, if_pos h4]
      have sp2 := find3_spec l p.start
      cases hf : findT l p.start with
      | none =>
        have hP : pathB l p = false := by unfold pathB; rw [hf]; rfl
        rw [hf] at sp2
        rw [hE, hP, if_neg (by decide)]
        (refine gGo ?_; intros)
        (refine gPC (sp1) ?_; conv => whnf)
        (refine gGo ?_; intros)
        (refine gPC (sp2) ?_; conv => whnf)
        (refine gGr ?_; intros)
        exact ret0 rfl rfl rfl
      | some tb =>
        rw [hf] at sp2
        simp only [Option.getD_some, Option.isSome_some] at sp2
        (refine gGo ?_; intros)
        (refine gPC (sp1) ?_; conv => whnf)
        (refine gGo ?_; intros)
        (refine gPC (sp2) ?_; conv => whnf)
        (refine gGo ?_; intros)
        refine W.loopG (fun n st => ∃ k : Nat, k ≤ p.steps.length ∧ (∀ i, i < k → stepOK l p i = true) ∧ n = p.steps.length - k ∧ st = ⟨[(0, .sl (tblRows l) false), (3, .bp 3 0), (32, .sl (stpRows p.steps) false), (33, .int .i64 (stpRows p.steps).length), (34, .int .i64 k)], [(3, [.rows 2 [p.row] none])], [3]⟩)
          p.steps.length _ ⟨0, by omega, fun i hi => by omega, by omega, rfl⟩ ⟨[(3, 3)], [], [], .mq (.ci 3 .nil)⟩ ?_
        rintro n st ⟨k, hk, hok, rfl, rfl⟩
        (refine gGo ?_; intros)
        refine boolRes_split (fun hb => ?_) (fun hb => ?_) <;> conv => whnf
        · have hkl : k < p.steps.length := by omega
          have hg := stpRows_get hkl
          have hso : stepOK l p k = ((getC l p.steps[k].ft p.steps[k].fc).isSome && ((getC l p.steps[k].tt p.steps[k].tc).isSome && (decide (p.steps[k].ft ∈ befT p k) && !decide (p.steps[k].tt ∈ befT p k)))) := by
            unfold stepOK
            rw [List.getElem?_eq_getElem hkl]
          have hbad : stepOK l p k = false → validE l p = 21 := fun h => by rw [hE, pathB_false hkl h, if_neg (by decide)]
          have hgood : stepOK l p k = true → ∀ i, i < k + 1 → stepOK l p i = true := fun h i hi => by
            by_cases e : i = k
            · subst e; exact h
            · exact hok i (by omega)
          have pf := place_spec p k p.steps[k].ft (by omega) (by omega)
          have pt := place_spec p k p.steps[k].tt (by omega) (by omega)
          have mf := placeZ_mem p k p.steps[k].ft
          have mt := placeZ_mem p k p.steps[k].tt
          have gf := get3_spec l p.steps[k].ft p.steps[k].fc
          have gt := get3_spec l p.steps[k].tt p.steps[k].tc
          generalize p.steps[k] = s at *
          generalize placeZ p k s.ft = zf at *
          generalize placeZ p k s.tt = zt at *
          generalize (getC l s.ft s.fc).getD Column.zero = c1 at *
          generalize (getC l s.tt s.tc).getD Column.zero = c2 at *
          cases hbf : (getC l s.ft s.fc).isSome with
          | false =>
            rw [hbf] at gf hso
            rw [hbad hso]
            (refine gGo ?_; intros)
            refine rowAt_of (by simpa using hg) ?_
            conv => whnf
            (refine gGo ?_; intros)
            (refine gPC (gf) ?_; conv => whnf)
            (refine gGo ?_; intros)
            (refine gPC (gt) ?_; conv => whnf)
            (refine gGo ?_; intros)
            (refine gGr ?_; intros)
            exact ret0 rfl rfl rfl
          | true =>
            rw [hbf] at gf hso
            cases hbt : (getC l s.tt s.tc).isSome with
            | false =>
              rw [hbt] at gt hso
              rw [hbad hso]
              (refine gGo ?_; intros)
              refine rowAt_of (by simpa using hg) ?_
              conv => whnf
              (refine gGo ?_; intros)
              (refine gPC (gf) ?_; conv => whnf)
              (refine gGo ?_; intros)
              (refine gPC (gt) ?_; conv => whnf)
              (refine gGo ?_; intros)
              (refine gGr ?_; intros)
              exact ret0 rfl rfl rfl
            | true =>
              rw [hbt] at gt hso
              rw [Bool.true_and, Bool.true_and] at hso
              (refine gGo ?_; intros)
              refine rowAt_of (by simpa using hg) ?_
              conv => whnf
              (refine gGo ?_; intros)
              (refine gPC (gf) ?_; conv => whnf)
              (refine gGo ?_; intros)
              (refine gPC (gt) ?_; conv => whnf)
              (refine gGo ?_; intros)
              (refine gPC (pf) ?_; conv => whnf)
              (refine gGo ?_; intros)
              refine boolRes_split (fun hb => ?_) (fun hb => ?_) <;> conv => whnf
              · have hT := hbad (by rw [hso, decide_eq_false (fun h => by have := mf.2 h; omega)]; rfl)
                rw [hT]
                (refine gGr ?_; intros)
                exact ret0 rfl rfl rfl
              · rw [decide_eq_true (mf.1 (by omega)), Bool.true_and] at hso
                (refine gGo ?_; intros)
                (refine gPC (pt) ?_; conv => whnf)
                (refine gGo ?_; intros)
                refine boolRes_split (fun hb => ?_) (fun hb => ?_) <;> conv => whnf
                · have hT := hbad (by rw [hso, decide_eq_true (mt.1 (by omega))]; rfl)
                  rw [hT]
                  (refine gGr ?_; intros)
                  exact ret0 rfl rfl rfl
                · have hT := hgood (by rw [hso, decide_eq_false (fun h => by have := mt.2 h; omega)]; rfl)
                  (refine gGo ?_; intros)
                  refine ⟨_, _, ?_, ⟨k + 1, by omega, hT, rfl, rfl⟩, ⟨[(3, 3)], [], [], .mq (.ci 3 .nil)⟩⟩
                  omega
        · have hke : k = p.steps.length := by omega
          subst hke
          have hP : pathB l p = true := pathB_true (by rw [hf]; rfl) hok
          rw [hE, hP, if_pos rfl]
          (refine gGr ?_; intros)
          exact ret0 rfl rfl rfl
    · have hE : validE l p = 3 := by unfold validE; rw [if_pos hlb, if_neg h4]
      rw [hE]
      (refine gGo ?_; intros)
      (refine gPC (sp1) ?_; conv => whnf)
      (refine gGr ?_; intros)
      exact ret0 rfl rfl rfl
end Go.Sx.Sp
namespace Go.Sx.Sp
open Go Go.Sx Go.Proofs
attribute [local irreducible] GoodW famL
end Go.Sx.Sp
namespace Go.Sx.Sp
open Go Go.Sx Go.Proofs
attribute [local irreducible] GoodW famL
end Go.Sx.Sp
