/- The law of the order of routes. -/
import Derived.Test.YtiokcnmokoonkaaGreatDoorRtFive
import Derived.Test.YtiokcnmokoonkaaGreatDoorJFour
import Derived.Test.YtiokcnmokoonkaaGreatDoorSxFour
set_option linter.unusedVariables false
set_option linter.unusedSimpArgs false
namespace Go.Sx.Sp
open Go Go.Sx Go.Proofs Go.Sort
attribute [local irreducible] GoodW famL
set_option maxHeartbeats 16000000 in
theorem order_law (a b : Rte) (t : List Int) : Spec Tryz.prog 4 [.agg a.row, .agg b.row, .sl (intRows .i64 t) false] [] (.bool true) [] := by
 have hl := intRows_len .i64 t
 have spL := light_spec t
 have spA := awake33_spec
 have hla := stpRows_len a.p.steps
 have hlb := stpRows_len b.p.steps
 refine gEn env Tryz.func4 fun Γ hN hK hML => ?_
 refine gA ?_
 (refine gE env hN (by kernel_rfl) ?_; conv => whnf)
 (refine gGs ?_; intros)
 refine W.leG (mp := []) (bo := [3, 4]) (st' := ⟨[(2, .sl (intRows .i64 t) false), (3, .ro a.row 0), (4, .ro b.row 0)], [], []⟩)
  (LeG.mk' rfl rfl rfl ⟨⟨_, .refl _, rfl⟩, ⟨_, .bp 3 0 6 a.row none rfl rfl (by simp [Rte.row]) (.inr rfl), rfl⟩, ⟨_, .bp 4 0 6 b.row none rfl rfl (by simp [Rte.row]) (.inr rfl), rfl⟩, trivial⟩ .nil rfl rfl (by rw [hK]; rfl)) ?_
 by_cases ha8 : a.p.steps.length ≤ 8
 ·by_cases hb8 : b.p.steps.length ≤ 8
  ·by_cases hll : t.length ≤ 500
   ·rw [decide_eq_true hll] at spL
    (refine gGo ?_; intros)
    (refine gPC (spL) ?_; conv => whnf)
    (refine gGo ?_; intros)
    (refine gCA [] [(5, 70)] [] (roll_spec t) ?_; conv => whnf)
    (refine gGo ?_; intros)
    refine W.ownNil 8 90 6 rfl rfl ?_
    refine W.loopG (fun m st => ∃ (i q : Nat) (L : List Rte), i ≤ 4 ∧ L.length = i ∧ q ≤ t.length ∧ m = 4 - i ∧ st = ⟨[(3, .ro a.row 0), (4, .ro b.row 0), (7, .bp 70 0), (8, .osl 90 0 0 (rteRows L).length (rteRows L).length), (35, .int .i64 (i : Nat))], [(70, [diceB t q]), (90, [.rows 6 (rteRows L) (some [])])], [70, 90]⟩)
     4 _ ⟨0, 0, [], by omega, rfl, by omega, rfl, rfl⟩ ⟨[(70, 70), (90, 90)], [], [], .mq (.ci 70 (.ci 90 .nil))⟩ ?_
    rintro m st ⟨i, q, L, hi, hLl, hq, rfl, rfl⟩
    have hrl := rteRows_len L
    (refine gGo ?_; intros)
    refine boolRes_split (fun hb => ?_) (fun hb => ?_) <;> conv => whnf
    ·have h1 := nextP_le hq
     have h2 := nextP_le h1
     have h3 := nextP_le h2
     have h4 := nextP_le h3
     have h5 := nextP_le h4
     have s1 := next_spec t q 2 (by omega) hq
     have s2 := next_spec t (nextP t q) 2 (by omega) h1
     have s3 := next_spec t (nextP t (nextP t q)) 2 (by omega) h2
     have s4 := next_spec t (nextP t (nextP t (nextP t q))) 9 (by omega) h3
     have s5 := next_spec t (nextP t (nextP t (nextP t (nextP t q)))) 3 (by omega) h4
     have hr5 := nextV_range t (nextP t (nextP t (nextP t (nextP t q)))) (n := 3) (by omega)
     obtain ⟨k0, hk0⟩ : ∃ k : Nat, nextV t (nextP t (nextP t (nextP t (nextP t q)))) 3 = k := ⟨_, (Int.toNat_of_nonneg hr5.1).symm⟩
     rw [hk0] at s5 hr5
     generalize nextV t q 2 = v0 at *
     generalize nextV t (nextP t q) 2 = v1 at *
     generalize nextV t (nextP t (nextP t q)) 2 = v2 at *
     generalize nextV t (nextP t (nextP t (nextP t q))) 9 = v3 at *
     generalize nextP t (nextP t (nextP t (nextP t (nextP t q)))) = q5 at *
     (refine gGo ?_; intros)
     (refine ⟨_, _, _, callG [(0, 70)] [] [] rfl rfl rfl (by kernel_rfl) (s1) (by repeat' (first | exact trivial | exact Lent.refl _ | exact Lent.norm _ | exact Lent.whole rfl rfl (by first | rfl | exact List.length_append.symm | exact hlenR | simp) rfl (by first | exact .inl rfl | exact .inr rfl) | apply And.intro)) rfl ⟨rfl, rfl, rfl, rfl, rfl, by repeat' (first | exact trivial | rfl | apply And.intro), rfl, rfl⟩, ?_⟩; conv => whnf)
     (refine gGo ?_; intros)
     (refine ⟨_, _, _, callG [(0, 70)] [] [] rfl rfl rfl (by kernel_rfl) (s2) (by repeat' (first | exact trivial | exact Lent.refl _ | exact Lent.norm _ | exact Lent.whole rfl rfl (by first | rfl | exact List.length_append.symm | exact hlenR | simp) rfl (by first | exact .inl rfl | exact .inr rfl) | apply And.intro)) rfl ⟨rfl, rfl, rfl, rfl, rfl, by repeat' (first | exact trivial | rfl | apply And.intro), rfl, rfl⟩, ?_⟩; conv => whnf)
     (refine gGo ?_; intros)
     (refine ⟨_, _, _, callG [(0, 70)] [] [] rfl rfl rfl (by kernel_rfl) (s3) (by repeat' (first | exact trivial | exact Lent.refl _ | exact Lent.norm _ | exact Lent.whole rfl rfl (by first | rfl | exact List.length_append.symm | exact hlenR | simp) rfl (by first | exact .inl rfl | exact .inr rfl) | apply And.intro)) rfl ⟨rfl, rfl, rfl, rfl, rfl, by repeat' (first | exact trivial | rfl | apply And.intro), rfl, rfl⟩, ?_⟩; conv => whnf)
     (refine gGo ?_; intros)
     (refine ⟨_, _, _, callG [(0, 70)] [] [] rfl rfl rfl (by kernel_rfl) (s4) (by repeat' (first | exact trivial | exact Lent.refl _ | exact Lent.norm _ | exact Lent.whole rfl rfl (by first | rfl | exact List.length_append.symm | exact hlenR | simp) rfl (by first | exact .inl rfl | exact .inr rfl) | apply And.intro)) rfl ⟨rfl, rfl, rfl, rfl, rfl, by repeat' (first | exact trivial | rfl | apply And.intro), rfl, rfl⟩, ?_⟩; conv => whnf)
     (refine gGo ?_; intros)
     (refine ⟨_, _, _, callG [(0, 70)] [] [] rfl rfl rfl (by kernel_rfl) (s5) (by repeat' (first | exact trivial | exact Lent.refl _ | exact Lent.norm _ | exact Lent.whole rfl rfl (by first | rfl | exact List.length_append.symm | exact hlenR | simp) rfl (by first | exact .inl rfl | exact .inr rfl) | apply And.intro)) rfl ⟨rfl, rfl, rfl, rfl, rfl, by repeat' (first | exact trivial | rfl | apply And.intro), rfl, rfl⟩, ?_⟩; conv => whnf)
     (refine gGo ?_; intros)
     refine W.ownCell 9 0 1 91 4 rfl rfl rfl rfl rfl ?_
     clear s1 s2 s3 s4 s5 h1 h2 h3 h4
     refine W.loopG (fun m st => ∃ (k q : Nat) (S : List Stp), S.length + k = k0 ∧ q ≤ t.length ∧ m = k ∧ st = ⟨[(3, .ro a.row 0), (4, .ro b.row 0), (7, .bp 70 0), (8, .osl 90 0 0 (rteRows L).length (rteRows L).length), (35, .int .i64 (i : Nat)), (9, .bp 9 0), (10, .int .i64 (k : Nat))], [(70, [diceB t q]), (90, [.rows 6 (rteRows L) (some [])]), (9, [.rows 6 [[.int .i64 v0, .osl 91 0 0 (stpRows S).length (stpRows S).length, .int .i64 v3, .int .i64 v1, .int .i64 v2, .nils]] none]), (91, [.rows 4 (stpRows S) (some [])])], [70, 90, 9, 91]⟩)
      k0 _ ⟨k0, q5, [], by simp, h5, rfl, rfl⟩ ⟨[(70, 70), (90, 90), (9, 9), (91, 91)], [], [], .mq (.ci 70 (.ci 90 (.ci 9 (.ci 91 .nil))))⟩ ?_
     rintro m st ⟨k, q, S, hSl, hq, rfl, rfl⟩
     have hsl := stpRows_len S
     cases m with
     | zero =>
      have hsn : rteRows (L ++ [⟨⟨v0, S⟩, ⟨v3, v1, v2, []⟩⟩]) = rteRows L ++ [[.int .i64 v0, .sl (stpRows S) false, .int .i64 v3, .int .i64 v1, .int .i64 v2, .sl [] false]] := by simp [rteRows, Rte.row, intRows]
      have hsn2 : (rteRows (L ++ [⟨⟨v0, S⟩, ⟨v3, v1, v2, []⟩⟩])).length = (rteRows L).length + 1 := by rw [hsn]; simp
      refine W.leG (mp := [(70, 70), (90, 90), (9, 9)]) (bo := [91]) (st' := ⟨[(3, .ro a.row 0), (4, .ro b.row 0), (7, .bp 70 0), (8, .osl 90 0 0 (rteRows L).length (rteRows L).length), (35, .int .i64 (i : Nat)), (9, .bp 9 0), (10, .int .i64 (0 : Nat))], [(70, [diceB t q]), (90, [.rows 6 (rteRows L) (some [])]), (9, [.rows 6 [[.int .i64 v0, .sl (stpRows S) false, .int .i64 v3, .int .i64 v1, .int .i64 v2, .sl [] false]] none])], [70, 90, 9]⟩)
       (LeG.mq (.ci 70 (.ci 90 (.cons 9 (b1 := .rows 6 [[.int .i64 v0, .sl (stpRows S) false, .int .i64 v3, .int .i64 v1, .int .i64 v2, .sl [] false]] none) rfl rfl (.rows _ _ _ ⟨⟨⟨.refl _, rfl⟩, ⟨Lent.whole rfl rfl rfl rfl (.inl rfl), rfl⟩, ⟨.refl _, rfl⟩, ⟨.refl _, rfl⟩, ⟨.refl _, rfl⟩, ⟨.norm _, rfl⟩, trivial⟩, trivial⟩) rfl .nil)))) ?_
      (refine gGo ?_; intros)
      refine ⟨⟨rowsSz_cons rfl rowsSz_nil, rfl⟩, fitsN (n := (rteRows L).length + 1) (b := 80) (by omega) (by omega), .inl ⟨rfl, rfl, ?_⟩⟩
      conv => whnf
      (refine gGo ?_; intros)
      exact ⟨4 - (i + 1), _, by omega, ⟨i + 1, q, L ++ [⟨⟨v0, S⟩, ⟨v3, v1, v2, []⟩⟩], by omega, by simp; omega, hq, rfl, rfl⟩, [(70, 70), (90, 90)], [], [], LeG.mk' rfl rfl rfl (by rw [hsn2]; exact (by repeat' (first | exact trivial | exact ⟨_, .refl _, rfl⟩ | apply And.intro))) (.ci 70 (.cons 90 rfl rfl (.refl _) (by rw [hsn]; rfl) .nil)) rfl rfl (by rw [hK]; rfl)⟩
     | succ k =>
      have h1 := nextP_le hq
      have h2 := nextP_le h1
      have h3 := nextP_le h2
      have h4 := nextP_le h3
      have s1 := next_spec t q 2 (by omega) hq
      have s2 := next_spec t (nextP t q) 2 (by omega) h1
      have s3 := next_spec t (nextP t (nextP t q)) 2 (by omega) h2
      have s4 := next_spec t (nextP t (nextP t (nextP t q))) 2 (by omega) h3
      generalize nextV t q 2 = w0 at *
      generalize nextV t (nextP t q) 2 = w1 at *
      generalize nextV t (nextP t (nextP t q)) 2 = w2 at *
      generalize nextV t (nextP t (nextP t (nextP t q))) 2 = w3 at *
      generalize nextP t (nextP t (nextP t (nextP t q))) = q4 at *
      have hsn : stpRows (S ++ [⟨w0, w1, w2, w3⟩]) = stpRows S ++ [[.int .i64 w0, .int .i64 w1, .int .i64 w2, .int .i64 w3]] := by simp [stpRows, Stp.row]
      have hsn2 : (stpRows (S ++ [⟨w0, w1, w2, w3⟩])).length = (stpRows S).length + 1 := by rw [hsn]; simp
      (refine gGo ?_; intros)
      (refine ⟨_, _, _, callG [(0, 70)] [] [] rfl rfl rfl (by kernel_rfl) (s1) (by repeat' (first | exact trivial | exact Lent.refl _ | exact Lent.norm _ | exact Lent.whole rfl rfl (by first | rfl | exact List.length_append.symm | exact hlenR | simp) rfl (by first | exact .inl rfl | exact .inr rfl) | apply And.intro)) rfl ⟨rfl, rfl, rfl, rfl, rfl, by repeat' (first | exact trivial | rfl | apply And.intro), rfl, rfl⟩, ?_⟩; conv => whnf)
      (refine gGo ?_; intros)
      (refine ⟨_, _, _, callG [(0, 70)] [] [] rfl rfl rfl (by kernel_rfl) (s2) (by repeat' (first | exact trivial | exact Lent.refl _ | exact Lent.norm _ | exact Lent.whole rfl rfl (by first | rfl | exact List.length_append.symm | exact hlenR | simp) rfl (by first | exact .inl rfl | exact .inr rfl) | apply And.intro)) rfl ⟨rfl, rfl, rfl, rfl, rfl, by repeat' (first | exact trivial | rfl | apply And.intro), rfl, rfl⟩, ?_⟩; conv => whnf)
      (refine gGo ?_; intros)
      (refine ⟨_, _, _, callG [(0, 70)] [] [] rfl rfl rfl (by kernel_rfl) (s3) (by repeat' (first | exact trivial | exact Lent.refl _ | exact Lent.norm _ | exact Lent.whole rfl rfl (by first | rfl | exact List.length_append.symm | exact hlenR | simp) rfl (by first | exact .inl rfl | exact .inr rfl) | apply And.intro)) rfl ⟨rfl, rfl, rfl, rfl, rfl, by repeat' (first | exact trivial | rfl | apply And.intro), rfl, rfl⟩, ?_⟩; conv => whnf)
      (refine gGo ?_; intros)
      (refine ⟨_, _, _, callG [(0, 70)] [] [] rfl rfl rfl (by kernel_rfl) (s4) (by repeat' (first | exact trivial | exact Lent.refl _ | exact Lent.norm _ | exact Lent.whole rfl rfl (by first | rfl | exact List.length_append.symm | exact hlenR | simp) rfl (by first | exact .inl rfl | exact .inr rfl) | apply And.intro)) rfl ⟨rfl, rfl, rfl, rfl, rfl, by repeat' (first | exact trivial | rfl | apply And.intro), rfl, rfl⟩, ?_⟩; conv => whnf)
      (refine gGo ?_; intros)
      refine ⟨⟨rowsSz_cons rfl rowsSz_nil, rfl⟩, fitsN (n := (stpRows S).length + 1) (b := 32) (by omega) (by omega), .inl ⟨rfl, rfl, ?_⟩⟩
      conv => whnf
      (refine gGo ?_; intros)
      exact ⟨k, _, by omega, ⟨k, q4, S ++ [⟨w0, w1, w2, w3⟩], by simp; omega, h4, rfl, rfl⟩, [(70, 70), (90, 90), (9, 9), (91, 91)], [], [], LeG.mk' rfl rfl rfl (by rw [show ((k + 1 : Nat) : Int) - 1 = (k : Nat) by omega]; exact (by repeat' (first | exact trivial | exact ⟨_, .refl _, rfl⟩ | apply And.intro))) (.ci 70 (.ci 90 (.cons 9 rfl rfl (.refl _) (by rw [hsn2]; rfl) (.cons 91 rfl rfl (.refl _) (by rw [hsn]; rfl) .nil)))) rfl rfl (by rw [hK]; rfl)⟩
    ·have hsn : rteRows (L ++ [a, b]) = rteRows L ++ [a.row, b.row] := by simp [rteRows]
     have hsn2 : (rteRows (L ++ [a, b])).length = (rteRows L).length + 2 := by rw [hsn]; simp
     (refine gGo ?_; intros)
     refine ⟨⟨rowsSz_cons rfl (rowsSz_cons rfl rowsSz_nil), rfl⟩, fitsN (n := (rteRows L).length + 2) (b := 80) (by omega) (by omega), .inl ⟨rfl, rfl, ?_⟩⟩
     conv => whnf
     (refine gGo ?_; intros)
     refine ⟨List.length_append.symm, fun hlenZ => ?_⟩
     conv => whnf
     (refine gGo ?_; intros)
     refine W.leG (mp := []) (bo := [90]) (st' := ⟨[(8, .sl (rteRows ((L ++ [a, b]))) false), (82, .sl (rteRows ((L ++ [a, b]))) false), (83, .int .i64 (rteRows ((L ++ [a, b]))).length), (84, .int .i64 (0 : Nat))], [], []⟩)
      (LeG.mk' rfl rfl rfl (by rw [hsn]; repeat' (first | exact trivial | exact ⟨_, .refl _, rfl⟩ | exact ⟨_, Lent.whole rfl rfl List.length_append.symm rfl (by first | exact .inl rfl | exact .inr rfl), rfl⟩ | (rw [List.length_append]; exact ⟨_, .refl _, rfl⟩) | apply And.intro)) .nil rfl rfl (by rw [hK]; rfl)) ?_
     have hZl : (L ++ [a, b]).length = 4 + 2 := by simp; omega
     generalize L ++ [a, b] = Z at *
     have hzl := rteRows_len Z
     refine W.loopG (fun m st => ∃ j : Nat, j ≤ Z.length ∧ m = Z.length - j ∧ st = ⟨[(8, .sl (rteRows (Z)) false), (82, .sl (rteRows (Z)) false), (83, .int .i64 (rteRows (Z)).length), (84, .int .i64 (j : Nat))], [], []⟩)
      Z.length _ ⟨0, by omega, by omega, rfl⟩ ⟨[], [], [], .mq .nil⟩ ?_
     rintro m st ⟨j, hj, rfl, rfl⟩
     (refine gGo ?_; intros)
     refine boolRes_split (fun hb => ?_) (fun hb => ?_) <;> conv => whnf
     ·have hlt : j < Z.length := by omega
      have hg := rteRows_get hlt
      generalize Z[j] = x at *
      (refine gGo ?_; intros)
      refine rowAt_of (r := x.row) (by simpa using hg) ?_
      conv => whnf
      (refine gGo ?_; intros)
      refine W.leG (mp := []) (bo := [12]) (st' := ⟨[(8, .sl (rteRows (Z)) false), (82, .sl (rteRows (Z)) false), (83, .int .i64 (rteRows (Z)).length), (84, .int .i64 (j : Nat)), (12, .ro x.row 0), (88, .sl (rteRows Z) false), (89, .int .i64 (rteRows Z).length), (90, .int .i64 (0 : Nat))], [], []⟩)
       (LeG.mk' rfl rfl rfl (by repeat' (first | exact trivial | exact ⟨_, .refl _, rfl⟩ | exact ⟨_, .bp 12 0 6 x.row none rfl rfl (by simp [Rte.row]) (.inr rfl), rfl⟩ | apply And.intro)) .nil rfl rfl (by rw [hK]; rfl)) ?_
      refine W.loopG (fun m st => ∃ i : Nat, i ≤ Z.length ∧ m = Z.length - i ∧ st = ⟨[(8, .sl (rteRows (Z)) false), (82, .sl (rteRows (Z)) false), (83, .int .i64 (rteRows (Z)).length), (84, .int .i64 (j : Nat)), (12, .ro x.row 0), (88, .sl (rteRows Z) false), (89, .int .i64 (rteRows Z).length), (90, .int .i64 (i : Nat))], [], []⟩)
       Z.length _ ⟨0, by omega, by omega, rfl⟩ ⟨[], [], [], .mq .nil⟩ ?_
      rintro m st ⟨i, hi, rfl, rfl⟩
      (refine gGo ?_; intros)
      refine boolRes_split (fun hb => ?_) (fun hb => ?_) <;> conv => whnf
      ·have hlti : i < Z.length := by omega
       have hgi := rteRows_get hlti
       generalize Z[i] = y at *
       have c1 := cmpRte_spec x y
       have c2 := cmpRte33_spec x y
       (refine gGo ?_; intros)
       refine rowAt_of (r := y.row) (by simpa using hgi) ?_
       conv => whnf
       (refine gGo ?_; intros)
       (refine gPC (c1) ?_; conv => whnf)
       (refine gGo ?_; intros)
       (refine gPC (c2) ?_; conv => whnf)
       (refine gGo ?_; intros)
       exact ⟨Z.length - (i + 1), _, by omega, ⟨i + 1, by omega, rfl, rfl⟩, [], [14], [], LeG.mq .nil⟩
      ·(refine gGo ?_; intros)
       exact ⟨Z.length - (j + 1), _, by omega, ⟨j + 1, by omega, rfl, rfl⟩, [], [], [], LeG.mq .nil⟩
     ·(refine gGo ?_; intros)
      (refine gPC (spA) ?_; conv => whnf)
      (refine gGr ?_; intros)
      exact ret0 rfl rfl rfl
   ·rw [decide_eq_false hll] at spL
    (refine gGo ?_; intros)
    (refine gPC (spL) ?_; conv => whnf)
    (refine gGo ?_; intros)
    (refine gPC (spA) ?_; conv => whnf)
    (refine gGr ?_; intros)
    exact ret0 rfl rfl rfl
  ·(refine gGo ?_; intros)
   (refine gGo ?_; intros)
   (refine gPC (spA) ?_; conv => whnf)
   (refine gGr ?_; intros)
   exact ret0 rfl rfl rfl
 ·(refine gGo ?_; intros)
  (refine gGo ?_; intros)
  (refine gPC (spA) ?_; conv => whnf)
  (refine gGr ?_; intros)
  exact ret0 rfl rfl rfl
end Go.Sx.Sp
namespace Go.Sx.Sp
open Go Go.Sx Go.Proofs
attribute [local irreducible] GoodW famL
theorem wf_ref {n : Nat} {vs : List V} (hs : shape T (n + 2) 33 vs) : ∃ x y : Int, vs = [.int .i64 x, .int .i64 y] := by
 obtain ⟨a, b, rfl, ha, c, d, rfl, hc, rfl⟩ := shape_st (T := T) (t := 33) rfl hs
 obtain ⟨x, rfl, _⟩ := shape_int (T := T) (t := 3) rfl ha
 obtain ⟨y, rfl, _⟩ := shape_int (T := T) (t := 3) rfl hc
 exact ⟨x, y, rfl⟩
theorem wf_steps {n : Nat} {rows : List (List V)} (hs : ∀ r ∈ rows, shape T (n + 3) 61 r) : ∃ l : List Stp, rows = stpRows l := by
 obtain ⟨l, h, _⟩ := rows_map (f := Stp.row) (p := fun _ => True) (rows := rows) fun r hr => by
  obtain ⟨a, b, rfl, ha, c, d, rfl, hc, rfl⟩ := shape_st (T := T) (t := 61) rfl (hs r hr)
  obtain ⟨x, y, rfl⟩ := wf_ref ha
  obtain ⟨z, u, rfl⟩ := wf_ref hc
  exact ⟨⟨x, y, z, u⟩, rfl, trivial⟩
 exact ⟨l, h⟩
theorem wf_path {n : Nat} {vs : List V} (hs : shape T (n + 5) 55 vs) : ∃ p : Pth, vs = p.row := by
 obtain ⟨a, b, rfl, ha, c, d, rfl, hc, rfl⟩ := shape_st (T := T) (t := 55) rfl hs
 obtain ⟨x, rfl, _⟩ := shape_int (T := T) (t := 3) rfl ha
 obtain ⟨q, rfl, _, hq⟩ := shape_sl (T := T) (t := 53) rfl hc
 obtain ⟨l, rfl⟩ := wf_steps hq
 exact ⟨⟨x, l⟩, rfl⟩
theorem wf_ints {n : Nat} {rows : List (List V)} (hs : ∀ r ∈ rows, shape T (n + 1) 3 r) : ∃ l : List Int, rows = intRows .i64 l := by
 obtain ⟨l, h, _⟩ := rows_map (f := fun x : Int => [V.int .i64 x]) (p := fun _ => True) (rows := rows) fun r hr => by
  obtain ⟨x, rfl, _⟩ := shape_int (T := T) (t := 3) rfl (hs r hr)
  exact ⟨x, rfl, trivial⟩
 exact ⟨l, h⟩
theorem wf_report {n : Nat} {vs : List V} (hs : shape T (n + 3) 57 vs) : ∃ r : Rep, vs = r.row := by
 obtain ⟨a, b, rfl, ha, c, d, rfl, hc, e, f, rfl, he, g, k, rfl, hg, rfl⟩ := shape_st (T := T) (t := 57) rfl hs
 obtain ⟨x, rfl, _⟩ := shape_int (T := T) (t := 3) rfl ha
 obtain ⟨y, rfl, _⟩ := shape_int (T := T) (t := 3) rfl hc
 obtain ⟨z, rfl, _⟩ := shape_int (T := T) (t := 3) rfl he
 obtain ⟨q, rfl, _, hq⟩ := shape_sl (T := T) (t := 22) rfl hg
 obtain ⟨l, rfl⟩ := wf_ints hq
 exact ⟨⟨x, y, z, l⟩, rfl⟩
theorem arg_route {n : Nat} {u : V} (hs : argShape T (n + 6) 59 u) : ∃ r : Rte, u = .agg r.row := by
 obtain ⟨vs, rfl, h⟩ := argShape_agg (T := T) (t := 59) rfl rfl hs
 obtain ⟨a, b, rfl, ha, c, d, rfl, hc, rfl⟩ := shape_st (T := T) (t := 59) rfl h
 obtain ⟨p, rfl⟩ := wf_path ha
 obtain ⟨r, rfl⟩ := wf_report hc
 exact ⟨⟨p, r⟩, rfl⟩
theorem order_calls {w : World} {v0 v1 v2 : Value} {u0 u1 u2 : V} (r0 : VRel w (fun _ => False) (fun _ _ => none) u0 v0) (r1 : VRel w (fun _ => False) (fun _ _ => none) u1 v1) (r2 : VRel w (fun _ => False) (fun _ _ => none) u2 v2)
  (a0 : argShape T 6 59 u0) (a1 : argShape T 6 59 u1) (a2 : argShape T 2 22 u2) (hg : GRel w (fun _ => False)) :
  Calls Tryz.prog 4 #[v0, v1, v2] w fun e w' => e = .returned (.bool true) ∧ Go.RowKit.Below w.heap.size w w' := by
 obtain ⟨x, rfl⟩ := arg_route (n := 0) a0
 obtain ⟨y, rfl⟩ := arg_route (n := 0) a1
 obtain ⟨l, rfl⟩ := arg_ints a2
 refine Spec.law (order_law x y l) (cargs := [v0, v1, v2]) rfl (fun j u c hj hc => ?_) rfl hg
 match j with
 | 0 => cases hj; cases hc; exact r0
 | 1 => cases hj; cases hc; exact r1
 | 2 => cases hj; cases hc; exact r2
 | j + 3 => cases hj
end Go.Sx.Sp
