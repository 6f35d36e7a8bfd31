/- What is owned by its caller, and the law. -/
import Derived.Test.YtoneemdpilpnfaaGreatDoorJSix
import Derived.Test.YtoneemdpilpnfaaGreatDoorJSeven
import Derived.Test.YtoneemdpilpnfaaGreatDoorJFour
import Derived.Test.YtoneemdpilpnfaaGreatDoorJNine
import Derived.Test.YtoneemdpilpnfaaGreatDoorSxFour
set_option linter.unusedVariables false
set_option linter.unusedSimpArgs false
namespace Go.Sx.Sp
open Go Go.Sx Go.Proofs
attribute [local irreducible] GoodW famL
section
variable (l : List Table) (p : Pth)
end
section
variable {l : List Table} {p : Pth}
end
end Go.Sx.Sp
namespace Go.Sx.Sp
open Go Go.Sx Go.Proofs
attribute [local irreducible] GoodW famL
end Go.Sx.Sp
namespace Go.Sx.Sp
open Go Go.Sx Go.Proofs
attribute [local irreducible] GoodW famL
end Go.Sx.Sp
namespace Go.Sx.Sp
open Go Go.Sx Go.Proofs
attribute [local irreducible] GoodW famL
end Go.Sx.Sp
namespace Go.Sx.Sp
open Go Go.Sx Go.Proofs
attribute [local irreducible] GoodW famL
structure KT (T : List (Str × Int)) : Prop where
  nd : (keysT T).Nodup
  pos : ∀ p ∈ T, 0 < p.2
theorem KT.add {T : List (Str × Int)} (h : KT T) (s : Str) : KT (addT T s 1) := by
  unfold addT
  cases hx : ixS s (keysT T) with
  | none =>
    have hns := ixS_none.1 hx
    have hl : lookT T s = 0 := by unfold lookT; rw [hx]
    refine ⟨?_, fun p hp => ?_⟩
    · simp only [keysT, List.map_append, List.map_cons, List.map_nil]
      rw [List.nodup_append]
      refine ⟨h.nd, by simp, fun a ha b hb => ?_⟩
      rw [List.mem_singleton.1 hb]
      intro e; exact hns (e ▸ ha)
    · rcases List.mem_append.1 hp with hp | hp
      · exact h.pos p hp
      · rw [List.mem_singleton.1 hp]; show 0 < lookT T s + 1; omega
  | some j =>
    have hj := ixS_lt hx
    have hl : lookT T s = (T.getD j ([], 0)).2 := by unfold lookT; rw [hx]
    have hp0 := h.pos T[j] (List.getElem_mem hj)
    have hg : T.getD j ([], 0) = T[j] := by rw [List.getD_eq_getElem?_getD, List.getElem?_eq_getElem hj]; rfl
    refine ⟨?_, fun p hp => ?_⟩
    · show (keysT (T.set j (s, lookT T s + 1))).Nodup
      rw [ixS_set hx]; exact h.nd
    · rcases List.mem_or_eq_of_mem_set hp with hp | hp
      · exact h.pos p hp
      · rw [hp]; show 0 < lookT T s + 1; rw [hl, hg]; omega
theorem KT.cntC (cs : List Cell) : KT (cntC cs) := by
  have : ∀ (cs : List Cell) (T : List (Str × Int)), KT T → KT (cs.foldl cntStep T) := by
    intro cs
    induction cs with
    | nil => exact fun T h => h
    | cons c cs ih =>
      intro T h
      rw [List.foldl_cons]
      refine ih _ ?_
      unfold cntStep
      split
      · exact h
      · exact h.add _
  exact this cs [] ⟨List.nodup_nil, fun p hp => by cases hp⟩
theorem KT.look {T : List (Str × Int)} (h : KT T) {j : Nat} (hj : j < T.length) : lookT T T[j].1 = T[j].2 := by
  unfold lookT
  cases hx : ixS T[j].1 (keysT T) with
  | none => exact absurd (List.mem_map.2 ⟨_, List.getElem_mem hj, rfl⟩) (ixS_none.1 hx)
  | some i =>
    have hi := ixS_lt hx
    have hk := ixS_some hx
    have hki : (keysT T)[i]'(by simpa [keysT] using hi) = (keysT T)[j]'(by simpa [keysT] using hj) := by
      have := (List.getElem?_eq_some_iff.1 hk).2
      rw [this]; simp [keysT]
    have hpw := List.pairwise_iff_getElem.1 h.nd
    have hij : i = j := by
      rcases Nat.lt_trichotomy i j with e | e | e
      · exact absurd hki (hpw i j (by simpa [keysT] using hi) (by simpa [keysT] using hj) e)
      · exact e
      · exact absurd hki.symm (hpw j i (by simpa [keysT] using hj) (by simpa [keysT] using hi) e)
    subst hij
    show (T.getD i ([], 0)).2 = _
    rw [List.getD_eq_getElem?_getD, List.getElem?_eq_getElem hj]; rfl
end Go.Sx.Sp
namespace Go.Sx.Sp
open Go Go.Sx Go.Proofs
attribute [local irreducible] GoodW famL
end Go.Sx.Sp
namespace Go.Sx.Sp
open Go Go.Sx Go.Proofs
attribute [local irreducible] GoodW famL
end Go.Sx.Sp
namespace Go.Sx.Sp
open Go Go.Sx Go.Proofs
attribute [local irreducible] GoodW famL
end Go.Sx.Sp
namespace Go.Sx.Sp
open Go Go.Sx Go.Proofs
attribute [local irreducible] GoodW famL
end Go.Sx.Sp
namespace Go.Sx.Sp
open Go Go.Sx Go.Proofs
attribute [local irreducible] GoodW famL
set_option maxHeartbeats 16000000 in
theorem joined_own (l : List Int) (most : Int) (p : Nat) (hm : 2 ≤ most ∧ most ≤ 100) (hp : p ≤ l.length) : Spec Tryz.prog 8 [.bp 0 0, .int .i64 most] [(0, diceB l p)] (.osl 90 0 0 (tblRows (joinedF l most p).1).length (tblRows (joinedF l most p).1).length) [(0, diceB l (joinedF l most p).2), (90, .rows 3 (tblRows (joinedF l most p).1) (some []))] := by
  have hp1 := nextP_le hp
  have sp0 := next_spec l p (most - 1) (by omega) hp
  have hr := nextV_range l p (n := most - 1) (by omega)
  have hres : joinedF l most p = seqF (fun k q => tabJ l k q) (2 + (nextV l p (most - 1)).toNat) 0 (nextP l p) := rfl
  obtain ⟨N, hN⟩ := Int.eq_ofNat_of_zero_le hr.1
  rw [hN] at sp0 hr hres
  rw [Int.toNat_natCast] at hres
  generalize nextP l p = p1 at *
  generalize joinedF l most p = res at *
  refine gEn env Tryz.func8 fun Γ hN hK hML => ?_
  (refine gGo ?_; intros)
  (refine ⟨_, _, _, callG [(0, 0)] [] [] rfl rfl rfl (by kernel_rfl) (sp0) (by repeat' (first | exact trivial | exact Lent.refl _ | exact Lent.norm _ | exact Lent.whole rfl rfl (by first | rfl | exact List.length_append.symm | exact hlenR | simp) rfl (by first | exact .inl rfl | exact .inr rfl) | apply And.intro)) rfl ⟨rfl, rfl, rfl, rfl, rfl, by repeat' (first | exact trivial | rfl | apply And.intro), rfl, rfl⟩, ?_⟩; conv => whnf)
  (refine gGo ?_; intros)
  refine W.ownNil 5 90 3 rfl rfl ?_
  refine W.loopG (fun m st => ∃ (k q : Nat) (out : List Table), k ≤ 2 + N ∧ q ≤ l.length ∧ out.length = k ∧ res = (out ++ (seqF (fun k q => tabJ l k q) (2 + N - k) k q).1, (seqF (fun k q => tabJ l k q) (2 + N - k) k q).2) ∧ m = 2 + N - k ∧ st = ⟨[(0, .bp 0 0), (5, .osl 90 0 0 (tblRows out).length (tblRows out).length), (15, .int .i64 (2 + (N : Int))), (16, .int .i64 k)], [(0, [diceB l q]), (90, [.rows 3 (tblRows out) (some [])])], [0, 90]⟩)
    (2 + N) _ ⟨0, p1, [], by omega, hp1, rfl, hres, by omega, rfl⟩ ⟨[(0, 0), (90, 90)], [], [], .mq (.ci 0 (.ci 90 .nil))⟩ ?_
  rintro m st ⟨k, q, out, hk, hq, ho, he, rfl, rfl⟩
  have hol := tblRows_len out
  (refine gGo ?_; intros)
  refine boolRes_split (fun hb => ?_) (fun hb => ?_) <;> conv => whnf
  · have hkl : k < 2 + N := by omega
    have hq1 := nextP_le hq
    have hq2 := nextP_le hq1
    have sp1 := next_spec l q 5 (by omega) hq
    have hr1 := nextV_range l q (n := 5) (by omega)
    have sp2 := next_spec l (nextP l q) 2 (by omega) hq1
    have hr2 := nextV_range l (nextP l q) (n := 2) (by omega)
    have hT : tabJ l k q = (⟨(k + 1 : Nat), [106], (seqF (fun _ q' => colJ l (1 + (nextV l q 5).toNat) q') (1 + (nextV l (nextP l q) 2).toNat) 0 (nextP l (nextP l q))).1⟩, (seqF (fun _ q' => colJ l (1 + (nextV l q 5).toNat) q') (1 + (nextV l (nextP l q) 2).toNat) 0 (nextP l (nextP l q))).2) := rfl
    have htok := (tabJ_ok (l := l) (k := k) hq).2
    obtain ⟨R, hR⟩ := Int.eq_ofNat_of_zero_le hr1.1
    obtain ⟨M, hM⟩ := Int.eq_ofNat_of_zero_le hr2.1
    rw [hR] at sp1 hr1 hT
    rw [hM] at sp2 hr2 hT
    rw [Int.toNat_natCast, Int.toNat_natCast] at hT
    generalize hC : seqF (fun _ q => colJ l (1 + R) q) (1 + M) 0 (nextP l (nextP l q)) = C at hT
    generalize nextP l (nextP l q) = q2 at *
    generalize nextP l q = q1 at *
    rw [show 2 + N - k = (2 + N - (k + 1)) + 1 by omega] at he
    simp only [seqF] at he
    rw [hT] at he htok
    clear hT hR hM
    (refine gGo ?_; intros)
    (refine ⟨_, _, _, callG [(0, 0)] [] [] rfl rfl rfl (by kernel_rfl) (sp1) (by repeat' (first | exact trivial | exact Lent.refl _ | exact Lent.norm _ | exact Lent.whole rfl rfl (by first | rfl | exact List.length_append.symm | exact hlenR | simp) rfl (by first | exact .inl rfl | exact .inr rfl) | apply And.intro)) rfl ⟨rfl, rfl, rfl, rfl, rfl, by repeat' (first | exact trivial | rfl | apply And.intro), rfl, rfl⟩, ?_⟩; conv => whnf)
    (refine gGo ?_; intros)
    (refine ⟨_, _, _, callG [(0, 0)] [] [] rfl rfl rfl (by kernel_rfl) (sp2) (by repeat' (first | exact trivial | exact Lent.refl _ | exact Lent.norm _ | exact Lent.whole rfl rfl (by first | rfl | exact List.length_append.symm | exact hlenR | simp) rfl (by first | exact .inl rfl | exact .inr rfl) | apply And.intro)) rfl ⟨rfl, rfl, rfl, rfl, rfl, by repeat' (first | exact trivial | rfl | apply And.intro), rfl, rfl⟩, ?_⟩; conv => whnf)
    (refine gGo ?_; intros)
    refine W.ownCell 7 0 2 91 2 rfl rfl rfl rfl rfl ?_
    refine W.loopG (fun m st => ∃ (j q : Nat) (cs : List Column), j ≤ 1 + M ∧ q ≤ l.length ∧ cs.length = j ∧ C = (cs ++ (seqF (fun _ q => colJ l (1 + R) q) (1 + M - j) j q).1, (seqF (fun _ q => colJ l (1 + R) q) (1 + M - j) j q).2) ∧ m = 1 + M - j ∧ st = ⟨[(0, .bp 0 0), (5, .osl 90 0 0 (tblRows out).length (tblRows out).length), (15, .int .i64 (2 + (N : Int))), (16, .int .i64 k), (7, .bp 7 0), (8, .int .i64 (1 + (R : Int))), (27, .int .i64 (1 + (M : Int))), (28, .int .i64 j)], [(0, [diceB l q]), (90, [.rows 3 (tblRows out) (some [])]), (7, [.rows 3 [[.int .i64 ((k : Int) + 1), .str [106], .osl 91 0 0 (colRows cs).length (colRows cs).length]] none]), (91, [.rows 2 (colRows cs) (some [])])], [0, 90, 7, 91]⟩)
      (1 + M) _ ⟨0, q2, [], by omega, hq2, rfl, hC.symm, by omega, rfl⟩ ⟨[(0, 0), (90, 90), (7, 7), (91, 91)], [], [], .mq (.ci 0 (.ci 90 (.ci 7 (.ci 91 .nil))))⟩ ?_
    clear hC hq2 sp1 sp2 hq1 hq
    rintro m st ⟨j, q, cs, hj, hq, hcs, hce, rfl, rfl⟩
    have hcl := colRows_len cs
    (refine gGo ?_; intros)
    refine boolRes_split (fun hb => ?_) (fun hb => ?_) <;> conv => whnf
    · have hjl : j < 1 + M := by omega
      have hq1 := nextP_le hq
      obtain ⟨_, sp3⟩ := wordF_spec (ws := jNames) (by decide) (by decide) hq
      have hcd : colJ l (1 + R) q = (⟨wordF jNames l q, (seqF (fun _ q => cellJ l q) (1 + R) 0 (nextP l q)).1⟩, (seqF (fun _ q => cellJ l q) (1 + R) 0 (nextP l q)).2) := rfl
      have hcok := (colJ_ok (l := l) (n := 1 + R) hq).2
      rw [show 1 + M - j = (1 + M - (j + 1)) + 1 by omega] at hce
      simp only [seqF] at hce
      generalize hX : seqF (fun _ q => cellJ l q) (1 + R) 0 (nextP l q) = X at hcd
      rw [hcd] at hce hcok
      clear hcd
      generalize nextP l q = q1 at *
      generalize wordF jNames l q = nm at *
      (refine gGo ?_; intros)
      (refine ⟨_, _, _, callG [(0, 0)] [] [] rfl rfl rfl (by kernel_rfl) (sp3) (by repeat' (first | exact trivial | exact Lent.refl _ | exact Lent.norm _ | exact Lent.whole rfl rfl (by first | rfl | exact List.length_append.symm | exact hlenR | simp) rfl (by first | exact .inl rfl | exact .inr rfl) | apply And.intro)) rfl ⟨rfl, rfl, rfl, rfl, rfl, by repeat' (first | exact trivial | rfl | apply And.intro), rfl, rfl⟩, ?_⟩; conv => whnf)
      (refine gGo ?_; intros)
      refine W.ownCell 9 0 1 92 2 rfl rfl rfl rfl rfl ?_
      refine W.loopG (fun m st => ∃ (i q : Nat) (xs : List Cell), i ≤ 1 + R ∧ q ≤ l.length ∧ xs.length = i ∧ X = (xs ++ (seqF (fun _ q => cellJ l q) (1 + R - i) i q).1, (seqF (fun _ q => cellJ l q) (1 + R - i) i q).2) ∧ m = 1 + R - i ∧ st = ⟨[(0, .bp 0 0), (5, .osl 90 0 0 (tblRows out).length (tblRows out).length), (15, .int .i64 (2 + (N : Int))), (16, .int .i64 k), (7, .bp 7 0), (8, .int .i64 (1 + (R : Int))), (27, .int .i64 (1 + (M : Int))), (28, .int .i64 j), (9, .bp 9 0), (34, .int .i64 (1 + (R : Int))), (35, .int .i64 i)], [(0, [diceB l q]), (90, [.rows 3 (tblRows out) (some [])]), (7, [.rows 3 [[.int .i64 ((k : Int) + 1), .str [106], .osl 91 0 0 (colRows cs).length (colRows cs).length]] none]), (91, [.rows 2 (colRows cs) (some [])]), (9, [.rows 2 [[.str nm, .osl 92 0 0 (cellRows xs).length (cellRows xs).length]] none]), (92, [.rows 2 (cellRows xs) (some [])])], [0, 90, 7, 91, 9, 92]⟩)
        (1 + R) _ ⟨0, q1, [], by omega, hq1, rfl, hX.symm, by omega, rfl⟩ ⟨[(0, 0), (90, 90), (7, 7), (91, 91), (9, 9), (92, 92)], [], [], .mq (.ci 0 (.ci 90 (.ci 7 (.ci 91 (.ci 9 (.ci 92 .nil))))))⟩ ?_
      clear hX hq1 sp3 hq
      rintro m st ⟨i, q, xs, hi, hq, hxs, hxe, rfl, rfl⟩
      have hxl := cellRows_len xs
      (refine gGo ?_; intros)
      refine boolRes_split (fun hb => ?_) (fun hb => ?_) <;> conv => whnf
      · have hil : i < 1 + R := by omega
        obtain ⟨_, sp4⟩ := wordF_spec (ws := jCells) (by decide) (by decide) hq
        have sp5 := next_spec l (nextP l q) 9 (by omega) (nextP_le hq)
        have hcellok := (cellJ_ok (l := l) hq).2
        rw [show 1 + R - i = (1 + R - (i + 1)) + 1 by omega] at hxe
        simp only [seqF] at hxe
        (refine gGo ?_; intros)
        (refine ⟨_, _, _, callG [(0, 0)] [] [] rfl rfl rfl (by kernel_rfl) (sp4) (by repeat' (first | exact trivial | exact Lent.refl _ | exact Lent.norm _ | exact Lent.whole rfl rfl (by first | rfl | exact List.length_append.symm | exact hlenR | simp) rfl (by first | exact .inl rfl | exact .inr rfl) | apply And.intro)) rfl ⟨rfl, rfl, rfl, rfl, rfl, by repeat' (first | exact trivial | rfl | apply And.intro), rfl, rfl⟩, ?_⟩; conv => whnf)
        (refine gGo ?_; intros)
        (refine ⟨_, _, _, callG [(0, 0)] [] [] rfl rfl rfl (by kernel_rfl) (sp5) (by repeat' (first | exact trivial | exact Lent.refl _ | exact Lent.norm _ | exact Lent.whole rfl rfl (by first | rfl | exact List.length_append.symm | exact hlenR | simp) rfl (by first | exact .inl rfl | exact .inr rfl) | apply And.intro)) rfl ⟨rfl, rfl, rfl, rfl, rfl, by repeat' (first | exact trivial | rfl | apply And.intro), rfl, rfl⟩, ?_⟩; conv => whnf)
        (refine gGo ?_; intros)
        refine boolRes_split (fun hb => ?_) (fun hb => ?_) <;> conv => whnf
        · have hc : cellJ l q = (⟨true, []⟩, nextP l (nextP l q)) := by unfold cellJ; rw [if_pos hb]
          rw [hc] at hxe hcellok
          (refine gGo ?_; intros)
          refine ⟨⟨rowsSz_cons rfl rowsSz_nil, rfl⟩, fitsN (n := (cellRows xs).length + 1) (b := 24) (by omega) (by omega), .inl ⟨rfl, rfl, ?_⟩⟩
          conv => whnf
          (refine gGo ?_; intros)
          refine ⟨_, _, ?_, ⟨i + 1, _, xs ++ [_], by omega, hcellok, by simp; omega, (by rw [hxe, List.append_cons]), rfl, rfl⟩, [(0, 0), (90, 90), (7, 7), (91, 91), (9, 9), (92, 92)], [], [], LeG.mq (.ci 0 (.ci 90 (.ci 7 (.ci 91 (.cons 9 rfl rfl (.refl _) ?_ (.cons 92 rfl rfl (.refl _) ?_ .nil))))))⟩
          · omega
          · rw [cellRows_snoc, List.length_append]; rfl
          · rw [cellRows_snoc]; rfl
        · have hc : cellJ l q = (⟨false, wordF jCells l q⟩, nextP l (nextP l q)) := by unfold cellJ; rw [if_neg hb]
          rw [hc] at hxe hcellok
          (refine gGo ?_; intros)
          refine ⟨⟨rowsSz_cons rfl rowsSz_nil, rfl⟩, fitsN (n := (cellRows xs).length + 1) (b := 24) (by omega) (by omega), .inl ⟨rfl, rfl, ?_⟩⟩
          conv => whnf
          (refine gGo ?_; intros)
          refine ⟨_, _, ?_, ⟨i + 1, _, xs ++ [_], by omega, hcellok, by simp; omega, (by rw [hxe, List.append_cons]), rfl, rfl⟩, [(0, 0), (90, 90), (7, 7), (91, 91), (9, 9), (92, 92)], [], [], LeG.mq (.ci 0 (.ci 90 (.ci 7 (.ci 91 (.cons 9 rfl rfl (.refl _) ?_ (.cons 92 rfl rfl (.refl _) ?_ .nil))))))⟩
          · omega
          · rw [cellRows_snoc, List.length_append]; rfl
          · rw [cellRows_snoc]; rfl
      · have hie : i = 1 + R := by omega
        rw [hie, Nat.sub_self] at hxe
        simp only [seqF, List.append_nil] at hxe
        rw [hxe] at hce hcok
        clear hxe
        refine W.leG (mp := [(0, 0), (90, 90), (7, 7), (91, 91), (9, 9)]) (bo := [92]) (st' := ⟨[(0, .bp 0 0), (5, .osl 90 0 0 (tblRows out).length (tblRows out).length), (15, .int .i64 (2 + (N : Int))), (16, .int .i64 k), (7, .bp 7 0), (8, .int .i64 (1 + (R : Int))), (27, .int .i64 (1 + (M : Int))), (28, .int .i64 j), (9, .bp 9 0), (36, .bool false)], [(0, [diceB l q]), (90, [.rows 3 (tblRows out) (some [])]), (7, [.rows 3 [[.int .i64 ((k : Int) + 1), .str [106], .osl 91 0 0 (colRows cs).length (colRows cs).length]] none]), (91, [.rows 2 (colRows cs) (some [])]), (9, [.rows 2 [Column.row ⟨nm, xs⟩] none])], [0, 90, 7, 91, 9]⟩)
          (LeG.mq (.ci 0 (.ci 90 (.ci 7 (.ci 91 (.cons 9 (b1 := .rows 2 [Column.row ⟨nm, xs⟩] none) rfl rfl (.rows _ _ _ (by repeat' (first | exact trivial | exact ⟨Lent.refl _, rfl⟩ | exact ⟨Lent.norm _, rfl⟩ | exact ⟨Lent.whole rfl rfl (by first | rfl | exact List.length_append.symm | exact hlenR | simp) rfl (by first | exact .inl rfl | exact .inr rfl), rfl⟩ | apply And.intro))) rfl .nil)))))) ?_
        (refine gGo ?_; intros)
        refine ⟨⟨rowsSz_cons rfl rowsSz_nil, rfl⟩, fitsN (n := (colRows cs).length + 1) (b := 40) (by omega) (by omega), .inl ⟨rfl, rfl, ?_⟩⟩
        conv => whnf
        (refine gGo ?_; intros)
        refine ⟨_, _, ?_, ⟨j + 1, _, cs ++ [_], by omega, hcok, by simp; omega, (by rw [hce, List.append_cons]), rfl, rfl⟩, [(0, 0), (90, 90), (7, 7), (91, 91)], [], [], LeG.mq (.ci 0 (.ci 90 (.cons 7 rfl rfl (.refl _) ?_ (.cons 91 rfl rfl (.refl _) ?_ .nil))))⟩
        · omega
        · rw [colRows_snoc, List.length_append]; rfl
        · rw [colRows_snoc]; rfl
    · have hje : j = 1 + M := by omega
      rw [hje, Nat.sub_self] at hce
      simp only [seqF, List.append_nil] at hce
      rw [hce] at he htok
      clear hce
      refine W.leG (mp := [(0, 0), (90, 90), (7, 7)]) (bo := [91]) (st' := ⟨[(0, .bp 0 0), (5, .osl 90 0 0 (tblRows out).length (tblRows out).length), (15, .int .i64 (2 + (N : Int))), (16, .int .i64 k), (7, .bp 7 0), (29, .bool false)], [(0, [diceB l q]), (90, [.rows 3 (tblRows out) (some [])]), (7, [.rows 3 [Table.row ⟨(k + 1 : Nat), [106], cs⟩] none])], [0, 90, 7]⟩)
        (LeG.mq (.ci 0 (.ci 90 (.cons 7 (b1 := .rows 3 [Table.row ⟨(k + 1 : Nat), [106], cs⟩] none) rfl rfl (.rows _ _ _ (by repeat' (first | exact trivial | exact ⟨Lent.refl _, rfl⟩ | exact ⟨Lent.norm _, rfl⟩ | exact ⟨Lent.whole rfl rfl (by first | rfl | exact List.length_append.symm | exact hlenR | simp) rfl (by first | exact .inl rfl | exact .inr rfl), rfl⟩ | apply And.intro))) rfl .nil)))) ?_
      (refine gGo ?_; intros)
      refine ⟨⟨rowsSz_cons rfl rowsSz_nil, rfl⟩, fitsN (n := (tblRows out).length + 1) (b := 48) (by omega) (by omega), .inl ⟨rfl, rfl, ?_⟩⟩
      conv => whnf
      (refine gGo ?_; intros)
      refine ⟨_, _, ?_, ⟨k + 1, _, out ++ [_], by omega, htok, by simp; omega, (by rw [he, List.append_cons]), rfl, rfl⟩, [(0, 0), (90, 90)], [], [], ?_⟩
      · omega
      · rw [tblRows_snoc, List.length_append]
        exact LeG.mq (.ci 0 (.ci 90 .nil))
  · have hke : k = 2 + N := by omega
    rw [hke, Nat.sub_self] at he
    simp only [seqF, List.append_nil] at he
    rw [he]
    (refine gGo ?_; intros)
    (refine gM ?_; conv => whnf)
    exact retH rfl (.refl _) rfl rfl rfl ⟨rfl, rfl, rfl, rfl, trivial⟩
end Go.Sx.Sp
namespace Go.Sx.Sp
open Go Go.Sx Go.Proofs
attribute [local irreducible] GoodW famL
set_option maxHeartbeats 32000000 in
theorem build_own (l : List Table) (hv : listB l = true) (hl : l.length ≤ 100) : Spec Tryz.prog 60 [.sl (tblRows l) false, .agg (fracV 0 1)] [] (.tup [.osl 90 0 0 (relRows (edges l)).length (relRows (edges l)).length, .int .i64 0]) [(90, .rows 11 (relRows (edges l)) (some []))] := by
  have spV := validList3_spec l
  rw [hv] at spV
  have sp0 := zero23_spec
  have sp1 := less23_spec 0 1 zeroOK
  have sp2 := int23_spec 1 (by decide)
  have sp3 := less23_spec (partF 1 1).1 (partF 1 1).2 (partF_ok (by decide) (by decide) (by decide))
  have hal := listB_valid hv
  have hcols : ∀ b ∈ l, b.cols.length ≤ 64 := fun b hb => by
    have := hal b hb
    unfold validB headB at this
    simp only [Bool.and_eq_true, decide_eq_true_eq] at this
    exact this.1.1.2
  have htl := tblRows_len l
  generalize (partF 1 1).1 = p1 at *
  generalize (partF 1 1).2 = q1 at *
  refine gEn env Tryz.func60 fun Γ hN hK hML => ?_
  (refine gGo ?_; intros)
  (refine gPC (spV) ?_; conv => whnf)
  (refine gGo ?_; intros)
  (refine gPC (sp0) ?_; conv => whnf)
  (refine gGo ?_; intros)
  (refine gPC (sp1) ?_; conv => whnf)
  (refine gGo ?_; intros)
  (refine gPC (sp2) ?_; conv => whnf)
  (refine gGo ?_; intros)
  (refine gPC (sp3) ?_; conv => whnf)
  (refine gGo ?_; intros)
  refine W.ownNil 6 90 11 rfl rfl ?_
  refine W.leG (mp := [(3, 3), (90, 90)]) (bo := []) (st' := ⟨[(0, .sl (tblRows l) false), (3, .bp 3 0), (6, .osl 90 0 0 0 0), (28, .sl (tblRows l) false), (29, .int .i64 (tblRows l).length), (30, .int .i64 0)], [(3, [.rows 4 [fracV 0 1] none]), (90, [.rows 11 [] (some [])])], [3, 90]⟩)
    (LeG.mq (.ci 3 (.ci 90 .nil))) ?_
  refine W.loopG (fun n st => ∃ (k : Nat) (out : List (List Int)), k ≤ l.length ∧ out = edgeL l k ∧ n = l.length - k ∧ st = ⟨[(0, .sl (tblRows l) false), (3, .bp 3 0), (6, .osl 90 0 0 (relRows out).length (relRows out).length), (28, .sl (tblRows l) false), (29, .int .i64 (tblRows l).length), (30, .int .i64 k)], [(3, [.rows 4 [fracV 0 1] none]), (90, [.rows 11 (relRows out) (some [])])], [3, 90]⟩)
    l.length _ ⟨0, [], by omega, rfl, by omega, rfl⟩ ⟨[(3, 3), (90, 90)], [], [], .mq (.ci 3 (.ci 90 .nil))⟩ ?_
  rintro n st ⟨k, o1, hk, ho1, rfl, rfl⟩
  (refine gGo ?_; intros)
  refine boolRes_split (fun hb => ?_) (fun hb => ?_) <;> conv => whnf
  · have hkl : k < l.length := by omega
    have hg := tblRows_get hkl
    have hak := hal _ (List.getElem_mem hkl)
    have hck := hcols _ (List.getElem_mem hkl)
    have hgd : l.getD k Table.zero = l[k] := by simp [hkl]
    generalize ha : l[k] = a at *
    (refine gGo ?_; intros)
    refine rowAt_of (by simpa using hg) ?_
    conv => whnf
    have hb1 := edgeL_len hcols hl (show k ≤ l.length by omega)
    rw [← ho1] at hb1
    (refine gGo ?_; intros)
    refine W.loopG (fun n st => ∃ (i : Nat) (out : List (List Int)), i ≤ a.cols.length ∧ out = o1 ++ edgeA l k i ∧ n = a.cols.length - i ∧ st = ⟨[(0, .sl (tblRows l) false), (3, .bp 3 0), (6, .osl 90 0 0 (relRows out).length (relRows out).length), (28, .sl (tblRows l) false), (29, .int .i64 (tblRows l).length), (30, .int .i64 k), (7, .int .i64 k), (8, .bp 8 0), (36, .sl (colRows a.cols) false), (37, .int .i64 (colRows a.cols).length), (38, .int .i64 i)], [(3, [.rows 4 [fracV 0 1] none]), (90, [.rows 11 (relRows out) (some [])]), (8, [.rows 3 [a.row] none])], [3, 90, 8]⟩)
      a.cols.length _ ⟨0, o1, by omega, by simp [edgeA], by omega, rfl⟩ ⟨[(3, 3), (90, 90), (8, 8)], [], [], .mq (.ci 3 (.ci 90 (.ci 8 .nil)))⟩ ?_
    rintro n st ⟨i, o2, hi, ho2, rfl, rfl⟩
    have hal2 := colRows_len a.cols
    (refine gGo ?_; intros)
    refine boolRes_split (fun hb => ?_) (fun hb => ?_) <;> conv => whnf
    · have hil : i < a.cols.length := by omega
      have hb2 : o2.length ≤ 100 * 409600 + 64 * 6400 := by
        have := edgeA_len hcols hl k i
        rw [ho2, List.length_append]; omega
      obtain ⟨bs, hbs⟩ : ∃ bs, bs = l.drop (k + 1) := ⟨_, rfl⟩
      have hbl : bs.length = l.length - (k + 1) := by rw [hbs, List.length_drop]
      have hbm : ∀ b ∈ bs, b ∈ l := fun b hb => by rw [hbs] at hb; exact List.mem_of_mem_drop hb
      have hbt := tblRows_len bs
      have hdr : ((tblRows l).take ((tblRows l).length : Int).toNat).drop (((k : Int) + 1).toNat) = tblRows bs := by
        rw [Int.toNat_natCast, List.take_length, show ((k : Int) + 1).toNat = k + 1 by omega, hbs]
        unfold tblRows
        rw [List.map_drop]
      (refine gGo ?_; intros)
      refine ⟨tblRows_sz l, ?_⟩
      conv => whnf
      rw [hdr]
      (refine gGo ?_; intros)
      refine W.loopG (fun n st => ∃ (m : Nat) (out : List (List Int)), m ≤ bs.length ∧ out = o2 ++ edgeR a i (bs.take m) ∧ n = bs.length - m ∧ st = ⟨[(0, .sl (tblRows l) false), (3, .bp 3 0), (6, .osl 90 0 0 (relRows out).length (relRows out).length), (28, .sl (tblRows l) false), (29, .int .i64 (tblRows l).length), (30, .int .i64 k), (7, .int .i64 k), (8, .bp 8 0), (36, .sl (colRows a.cols) false), (37, .int .i64 (colRows a.cols).length), (38, .int .i64 i), (9, .int .i64 i), (44, .sl (tblRows bs) false), (45, .int .i64 (tblRows bs).length), (46, .int .i64 m)], [(3, [.rows 4 [fracV 0 1] none]), (90, [.rows 11 (relRows out) (some [])]), (8, [.rows 3 [a.row] none])], [3, 90, 8]⟩)
        bs.length _ ⟨0, o2, by omega, by simp [edgeR], by omega, rfl⟩ ⟨[(3, 3), (90, 90), (8, 8)], [], [], .mq (.ci 3 (.ci 90 (.ci 8 .nil)))⟩ ?_
      rintro n st ⟨m, o3, hm, ho3, rfl, rfl⟩
      (refine gGo ?_; intros)
      refine boolRes_split (fun hb => ?_) (fun hb => ?_) <;> conv => whnf
      · have hml : m < bs.length := by omega
        have hgm := tblRows_get hml
        have hbk := hal _ (hbm _ (List.getElem_mem hml))
        have hcb := hcols _ (hbm _ (List.getElem_mem hml))
        have hb3 : o3.length ≤ 100 * 409600 + 64 * 6400 + 100 * 64 := by
          have := edgeR_len a i (bs := bs.take m) (fun b hb => hcols _ (hbm _ (List.mem_of_mem_take hb)))
          rw [List.length_take] at this
          rw [ho3, List.length_append]; omega
        have htk : bs.take (m + 1) = bs.take m ++ [bs[m]] := List.take_succ_eq_append_getElem hml
        generalize bs[m] = b at *
        have hbl2 := colRows_len b.cols
        (refine gGo ?_; intros)
        refine rowAt_of (by simpa using hgm) ?_
        conv => whnf
        (refine gGo ?_; intros)
        refine W.loopG (fun n st => ∃ (j : Nat) (out : List (List Int)), j ≤ b.cols.length ∧ out = o3 ++ edgeB a i b j ∧ n = b.cols.length - j ∧ st = ⟨[(0, .sl (tblRows l) false), (3, .bp 3 0), (6, .osl 90 0 0 (relRows out).length (relRows out).length), (28, .sl (tblRows l) false), (29, .int .i64 (tblRows l).length), (30, .int .i64 k), (7, .int .i64 k), (8, .bp 8 0), (36, .sl (colRows a.cols) false), (37, .int .i64 (colRows a.cols).length), (38, .int .i64 i), (9, .int .i64 i), (44, .sl (tblRows bs) false), (45, .int .i64 (tblRows bs).length), (46, .int .i64 m), (11, .bp 11 0), (51, .sl (colRows b.cols) false), (52, .int .i64 (colRows b.cols).length), (53, .int .i64 j)], [(3, [.rows 4 [fracV 0 1] none]), (90, [.rows 11 (relRows out) (some [])]), (8, [.rows 3 [a.row] none]), (11, [.rows 3 [b.row] none])], [3, 90, 8, 11]⟩)
          b.cols.length _ ⟨0, o3, by omega, by simp [edgeB], by omega, rfl⟩ ⟨[(3, 3), (90, 90), (8, 8), (11, 11)], [], [], .mq (.ci 3 (.ci 90 (.ci 8 (.ci 11 .nil))))⟩ ?_
        rintro n st ⟨j, out, hj, hout, rfl, rfl⟩
        have hrl := relRows_len out
        (refine gGo ?_; intros)
        refine boolRes_split (fun hb => ?_) (fun hb => ?_) <;> conv => whnf
        · have hjl : j < b.cols.length := by omega
          have hb4 : out.length ≤ 100 * 409600 + 64 * 6400 + 100 * 64 + 64 := by
            have := edgeB_len a i b j
            rw [hout, List.length_append]; omega
          have spO := of29_spec a i b j
          obtain ⟨x, y, r6, r7, r8, r9, r10, hof, hx, hy⟩ := of29_form hak hbk hil hjl
          have hnx : edgeB a i b (j + 1) = edgeB a i b j ++ edgeC a i b j := range_flat _ _
          have hC : edgeC a i b j = if 0 < (x : Int) then [[a.id, (i : Int), b.id, (j : Int), (x : Int), (y : Int), r6, r7, r8, r9, r10]] else [] := by
            unfold edgeC
            rw [hof]; rfl
          rw [hof] at spO
          by_cases hx0 : x = 0
          · subst hx0
            rw [if_neg (by decide)] at hC
            (refine gGo ?_; intros)
            (refine gPC (spO) ?_; conv => whnf)
            (refine gGo ?_; intros)
            refine ⟨_, _, ?_, ⟨j + 1, out, by omega, (by rw [hout, hnx, hC, List.append_nil]), rfl, rfl⟩, ⟨[(3, 3), (90, 90), (8, 8), (11, 11)], [], [], .mq (.ci 3 (.ci 90 (.ci 8 (.ci 11 .nil))))⟩⟩
            omega
          · rw [if_pos (by omega)] at hC
            have spC := contained_spec a.id i b.id j r6 r7 r8 r9 r10 x y hx0 hx hy
            have spL := less23_spec (partF x (x + y)).1 (partF x (x + y)).2 (partF_ok (by omega) (by omega) (by omega))
            generalize (partF x (x + y)).1 = p2 at *
            generalize (partF x (x + y)).2 = q2 at *
            (refine gGo ?_; intros)
            (refine gPC (spO) ?_; conv => whnf)
            (refine gGo ?_; intros)
            (refine gPC (spC) ?_; conv => whnf)
            (refine gGo ?_; intros)
            (refine gPC (spL) ?_; conv => whnf)
            (refine gGo ?_; intros)
            refine ⟨⟨rowsSz_cons rfl rowsSz_nil, rfl⟩, fitsN (n := (relRows out).length + 1) (b := 88) (by omega) (by omega), .inl ⟨rfl, rfl, ?_⟩⟩
            conv => whnf
            (refine gGo ?_; intros)
            refine ⟨_, _, ?_, ⟨j + 1, out ++ [[a.id, (i : Int), b.id, (j : Int), (x : Int), (y : Int), r6, r7, r8, r9, r10]], by omega, (by rw [hout, hnx, hC, List.append_assoc]), rfl, rfl⟩, [(3, 3), (90, 90), (8, 8), (11, 11)], [], [], ?_⟩
            · omega
            · rw [relRows_snoc, List.length_append]
              exact LeG.mq (.ci 3 (.ci 90 (.ci 8 (.ci 11 .nil))))
        · have hje : j = b.cols.length := by omega
          subst hje
          (refine gGo ?_; intros)
          refine ⟨_, _, ?_, ⟨m + 1, out, by omega, (by rw [hout, ho3, htk, edgeR_snoc, List.append_assoc]), rfl, rfl⟩, ⟨[(3, 3), (90, 90), (8, 8)], [], [], .mq (.ci 3 (.ci 90 (.ci 8 .nil)))⟩⟩
          omega
      · have hme : m = bs.length := by omega
        subst hme
        (refine gGo ?_; intros)
        refine ⟨_, _, ?_, ⟨i + 1, o3, by omega, (by rw [ho3, List.take_length, ho2, List.append_assoc, edgeA_succ, hgd, ← hbs]), rfl, rfl⟩, ⟨[(3, 3), (90, 90), (8, 8)], [], [], .mq (.ci 3 (.ci 90 (.ci 8 .nil)))⟩⟩
        omega
    · have hie : i = a.cols.length := by omega
      subst hie
      (refine gGo ?_; intros)
      refine ⟨_, _, ?_, ⟨k + 1, o2, by omega, (by rw [ho2, ho1, edgeL_succ, hgd]), rfl, rfl⟩, ⟨[(3, 3), (90, 90)], [], [], .mq (.ci 3 (.ci 90 .nil))⟩⟩
      omega
  · have hke : k = l.length := by omega
    subst hke
    rw [show edges l = o1 from ho1.symm]
    (refine gGo ?_; intros)
    (refine gM ?_; conv => whnf)
    exact retH rfl (.refl _) rfl rfl rfl ⟨rfl, rfl, trivial⟩
theorem edges_own (l : List Table) (hv : listB l = true) (hl : l.length ≤ 100) : Spec Tryz.prog 30 [.sl (tblRows l) false] [] (.osl 90 0 0 (relRows (edges l)).length (relRows (edges l)).length) [(90, .rows 11 (relRows (edges l)) (some []))] := by
  have sp1 := zero23_spec
  have sp2 := build_own l hv hl
  refine gEn env Tryz.func30 fun Γ hN hK hML => ?_
  (refine gGo ?_; intros)
  (refine gPC (sp1) ?_; conv => whnf)
  (refine gGo ?_; intros)
  (refine gCA [] [(90, 90)] [] (sp2) ?_; conv => whnf)
  (refine gGr ?_; intros)
  exact retH rfl (.refl _) rfl rfl rfl ⟨rfl, rfl, trivial⟩
theorem rel_flat (E : List (List Int)) : ((relRows E).all fun r => flatL r) = true := by
  refine List.all_eq_true.2 fun r hr => ?_
  obtain ⟨x, _, rfl⟩ := List.mem_map.1 hr
  have : ∀ x : List Int, flatL (intsV x) = true := by
    intro x
    induction x with
    | nil => rfl
    | cons a x ih => exact ih
  exact this x
set_option maxHeartbeats 32000000 in
theorem path_own2 (t : List Int) (l : List Table) (q : Nat) (hv : listB l = true) (hl : l.length ≤ 100) (hl0 : 0 < l.length) (hq : q ≤ t.length) : Spec Tryz.prog 9 [.bp 0 0, .osl 80 0 0 (tblRows l).length (tblRows l).length] [(0, diceB t q), (80, .rows 3 (tblRows l) (some []))] (.agg [.int .i64 (pathF t l q).1.start, .osl 91 0 0 (stpRows (pathF t l q).1.steps).length (stpRows (pathF t l q).1.steps).length]) [(0, diceB t (pathF t l q).2), (80, .rows 3 (tblRows l) (some [])), (91, .rows 4 (stpRows (pathF t l q).1.steps) (some []))] := by
  have htl := tblRows_len l
  have hq1 := nextP_le hq
  have hq2 := nextP_le hq1
  have s1 := next_spec t q (tblRows l).length (by omega) hq
  have r1 := nextV_range t q (n := (l.length : Int)) (by omega)
  have s2 := next_spec t (nextP t q) 4 (by omega) hq1
  have r2 := nextV_range t (nextP t q) (n := 4) (by omega)
  have sE := edges_own l hv hl
  have h11 := edges_11 l
  have hEl : (edges l).length ≤ 40960000 := by
    have hcols : ∀ b ∈ l, b.cols.length ≤ 64 := fun b hb => by
      have := listB_valid hv b hb
      unfold validB headB at this
      simp only [Bool.and_eq_true, decide_eq_true_eq] at this
      exact this.1.1.2
    have := edgeL_len hcols hl (Nat.le_refl _)
    unfold edges; omega
  have hF : pathF t l q = (⟨(l.getD (nextV t q l.length).toNat Table.zero).id, (pathGo t (edges l) (nextV t (nextP t q) 4).toNat ⟨[(l.getD (nextV t q l.length).toNat Table.zero).id], [], nextP t (nextP t q)⟩).steps⟩, (pathGo t (edges l) (nextV t (nextP t q) 4).toNat ⟨[(l.getD (nextV t q l.length).toNat Table.zero).id], [], nextP t (nextP t q)⟩).q) := rfl
  rw [hF]
  clear hF
  rw [htl] at s1
  obtain ⟨i, hi⟩ := Int.eq_ofNat_of_zero_le r1.1
  obtain ⟨K, hK2⟩ := Int.eq_ofNat_of_zero_le r2.1
  rw [hi] at r1 s1 ⊢
  rw [hK2] at r2 s2 ⊢
  rw [Int.toNat_natCast, Int.toNat_natCast]
  have hil : i < l.length := by omega
  have hg := tblRows_get hil
  have hgd : l.getD i Table.zero = l[i] := by simp [hil]
  rw [hgd]
  generalize l[i] = x at *
  generalize edges l = E at *
  generalize nextP t (nextP t q) = q2 at *
  generalize nextP t q = q1 at *
  rw [← htl] at s1
  refine gEn env Tryz.func9 fun Γ hN hK hML => ?_
  (refine gGo ?_; intros)
  (refine gCA [(0, 0)] [] [] (s1) ?_; conv => whnf)
  (refine gGo ?_; intros)
  refine rowAt_of (by simpa using hg) ?_
  conv => whnf
  (refine gGl ?_; intros)
  refine Or.inl ?_
  conv => whnf
  (refine gGo ?_; intros)
  refine ⟨_, _, _, callG [] [(90, 85)] [80] rfl rfl rfl (by kernel_rfl) sE ⟨Lent.whole rfl rfl rfl rfl (.inl rfl), trivial⟩ rfl ⟨rfl, rfl, rfl, rfl, rfl, by repeat' (first | exact trivial | rfl | apply And.intro), rfl, (by show (true && ((Blk.rows 11 (relRows E) (some [])).flatB && true)) = true; rw [Bool.true_and, Bool.and_true]; exact rel_flat E)⟩, ?_⟩
  conv => whnf
  (refine gGs ?_; intros)
  refine W.leG (mp := [(80, 80), (0, 0), (4, 4), (5, 5), (25, 25)]) (bo := [85]) (st' := ⟨[(0, .bp 0 0), (4, .bp 4 0), (5, .bp 5 0), (6, .osl 25 0 0 1 1), (7, .sl (relRows E) false)], [(80, [.rows 3 (tblRows l) (some [])]), (0, [diceB t q1]), (4, [.rows 2 [[.int .i64 0, .nils]] none]), (5, [.rows 2 [[.int .i64 x.id, .nils]] none]), (25, [.rows 1 (intRows .i64 [x.id]) (some [])])], [80, 0, 4, 5, 25]⟩)
    (LeG.mk' rfl rfl rfl ⟨⟨_, .refl _, rfl⟩, ⟨_, .refl _, rfl⟩, ⟨_, .refl _, rfl⟩, ⟨_, .refl _, rfl⟩, ⟨_, Lent.whole rfl rfl rfl rfl (.inl rfl), rfl⟩, trivial⟩ (.ci 80 (.ci 0 (.ci 4 (.ci 5 (.cons 25 (b1 := .rows 1 (intRows .i64 [x.id]) (some [])) rfl rfl (.pure _ _ _ (ints_pure .i64 [x.id])) rfl .nil))))) rfl rfl (by rw [hK]; rfl)) ?_
  (refine gGo ?_; intros)
  (refine gCA [(0, 0)] [] [] (s2) ?_; conv => whnf)
  (refine gGo ?_; intros)
  refine W.ownCell 5 0 1 91 4 rfl rfl rfl rfl rfl ?_
  refine W.leG (mp := [(80, 80), (0, 0), (4, 4), (5, 5), (25, 25), (91, 91)]) (bo := []) (st' := ⟨[(0, .bp 0 0), (4, .bp 4 0), (5, .bp 5 0), (6, .osl 25 0 0 1 1), (7, .sl (relRows E) false), (8, .int .i64 K)], [(80, [.rows 3 (tblRows l) (some [])]), (0, [diceB t q2]), (4, [.rows 2 [[.int .i64 0, .nils]] none]), (5, [.rows 2 [[.int .i64 x.id, .osl 91 0 0 0 0]] none]), (25, [.rows 1 (intRows .i64 [x.id]) (some [])]), (91, [.rows 4 [] (some [])])], [80, 0, 4, 5, 25, 91]⟩)
    (LeG.mq (.ci 80 (.ci 0 (.ci 4 (.ci 5 (.cons 25 (b1 := .rows 1 (intRows .i64 [x.id]) (some [])) rfl rfl (.pure _ _ _ (ints_pure .i64 [x.id])) rfl (.ci 91 .nil))))))) ?_
  generalize x.id = start at *
  refine W.loopG (fun n st => ∃ (k : Nat) (s : PS), k ≤ K ∧ s.q ≤ t.length ∧ s.tabs ≠ [] ∧ s.tabs.length + k ≤ K + 1 ∧ s.steps.length + k ≤ K ∧ pathGo t E K ⟨[start], [], q2⟩ = pathGo t E k s ∧ n = k ∧ st = ⟨[(0, .bp 0 0), (4, .bp 4 0), (5, .bp 5 0), (6, .osl 25 0 0 (intRows .i64 s.tabs).length (intRows .i64 s.tabs).length), (7, .sl (relRows E) false), (8, .int .i64 k)], [(80, [.rows 3 (tblRows l) (some [])]), (0, [diceB t (s.q)]), (4, [.rows 2 [[.int .i64 0, .nils]] none]), (5, [.rows 2 [[.int .i64 start, .osl 91 0 0 (stpRows s.steps).length (stpRows s.steps).length]] none]), (25, [.rows 1 (intRows .i64 s.tabs) (some [])]), (91, [.rows 4 (stpRows s.steps) (some [])])], [80, 0, 4, 5, 25, 91]⟩)
    K _ ⟨K, ⟨[start], [], q2⟩, by omega, hq2, by simp, (by show 1 + K ≤ K + 1; omega), (by show 0 + K ≤ K; omega), rfl, rfl, rfl⟩ ⟨[(80, 80), (0, 0), (4, 4), (5, 5), (25, 25), (91, 91)], [], [], .mq (.ci 80 (.ci 0 (.ci 4 (.ci 5 (.ci 25 (.ci 91 .nil))))))⟩ ?_
  rintro n st ⟨k, s, hk, hsq, hne, htl2, hsl, hgo, rfl, rfl⟩
  (refine gGo ?_; intros)
  refine boolRes_split (fun hb => ?_) (fun hb => ?_) <;> conv => whnf
  · obtain ⟨m, rfl⟩ : ∃ m, n = m + 1 := ⟨n - 1, by omega⟩
    have hto : 0 < s.tabs.length := List.length_pos_iff.2 hne
    have hti := intRows_len .i64 s.tabs
    have hse := stpRows_len s.steps
    have g1 := nextP_le hsq
    have g2 := nextP_le g1
    have g3 := nextP_le g2
    have n1 := next_spec t s.q s.tabs.length (by omega) hsq
    have v1 := nextV_range t s.q (n := (s.tabs.length : Int)) (by omega)
    have hstep : pathGo t E (m + 1) s = pathGo t E m (pathStep t E s) := rfl
    obtain ⟨i1, hi1⟩ := Int.eq_ofNat_of_zero_le v1.1
    have hPE : pathE t E s = fromL E (s.tabs.getD i1 0) := by unfold pathE; rw [hi1, Int.toNat_natCast]
    rw [hi1] at v1 n1
    rw [← hti] at n1
    have hi1l : i1 < s.tabs.length := by omega
    have hg1 := intRows_get (k := .i64) hi1l
    have hgd1 : s.tabs.getD i1 0 = s.tabs[i1] := by simp [hi1l]
    rw [hgd1] at hPE
    have spF := from_spec E s.tabs[i1] h11 (by omega)
    have hFl := from_len E s.tabs[i1]
    have h11F := from_11 h11 s.tabs[i1]
    rw [← hPE] at spF hFl h11F
    have hPR : pathR t E s = (pathE t E s).getD (nextV t (nextP t s.q) (pathE t E s).length).toNat [] := rfl
    have hpS : pathStep t E s = if (pathE t E s).length = 0 then ⟨s.tabs, s.steps, nextP t s.q⟩ else if (pathR t E s).getD 2 0 ∈ s.tabs then (if nextV t (nextP t (nextP t s.q)) 20 = 1 then pathAdd s (pathR t E s) (nextP t (nextP t (nextP t s.q))) else ⟨s.tabs, s.steps, nextP t (nextP t (nextP t s.q))⟩) else pathAdd s (pathR t E s) (nextP t (nextP t s.q)) := rfl
    generalize pathR t E s = r at *
    generalize pathE t E s = e at *
    have hel := relRows_len e
    generalize s.tabs[i1] = ti at *
    (refine gGo ?_; intros)
    (refine gCA [(0, 0)] [] [] (n1) ?_; conv => whnf)
    (refine gGo ?_; intros)
    refine rowAt_of (r := [.int .i64 ti]) (by rw [Nat.zero_add, Int.toNat_natCast]; exact hg1) ?_
    conv => whnf
    (refine gGo ?_; intros)
    (refine gPC (spF) ?_; conv => whnf)
    (refine gGs ?_; intros)
    refine W.leG (mp := [(80, 80), (0, 0), (4, 4), (5, 5), (25, 25), (91, 91)]) (bo := []) (st' := ⟨[(0, .bp 0 0), (4, .bp 4 0), (5, .bp 5 0), (6, .osl 25 0 0 (intRows .i64 s.tabs).length (intRows .i64 s.tabs).length), (7, .sl (relRows E) false), (8, .int .i64 ((m + 1 : Nat) : Int)), (9, .sl (relRows e) false)], [(80, [.rows 3 (tblRows l) (some [])]), (0, [diceB t (nextP t s.q)]), (4, [.rows 2 [[.int .i64 0, .nils]] none]), (5, [.rows 2 [[.int .i64 start, .osl 91 0 0 (stpRows s.steps).length (stpRows s.steps).length]] none]), (25, [.rows 1 (intRows .i64 s.tabs) (some [])]), (91, [.rows 4 (stpRows s.steps) (some [])])], [80, 0, 4, 5, 25, 91]⟩)
      (LeG.mq (.ci 80 (.ci 0 (.ci 4 (.ci 5 (.ci 25 (.ci 91 .nil))))))) ?_
    by_cases he0 : e.length = 0
    · rw [if_pos he0] at hpS
      (refine gGo ?_; intros)
      refine ⟨_, _, ?_, ⟨m, ⟨s.tabs, s.steps, nextP t s.q⟩, by omega, g1, hne, (by show s.tabs.length + m ≤ _; omega), (by show s.steps.length + m ≤ _; omega), (by rw [hgo, hstep, hpS]), rfl, rfl⟩, ⟨[(80, 80), (0, 0), (4, 4), (5, 5), (25, 25), (91, 91)], [], [], LeG.mk' rfl rfl rfl (⟨⟨_, .refl _, rfl⟩, ⟨_, .refl _, rfl⟩, ⟨_, .refl _, rfl⟩, ⟨_, .refl _, rfl⟩, ⟨_, .refl _, rfl⟩, ⟨_, .refl _, (by show V.int .i64 (((m + 1 : Nat) : Int) - 1) = _; congr 1; omega)⟩, trivial⟩) (.ci 80 (.ci 0 (.ci 4 (.ci 5 (.ci 25 (.ci 91 .nil)))))) rfl rfl (by rw [hK]; rfl)⟩⟩
      omega
    · rw [if_neg he0] at hpS
      have n2 := next_spec t (nextP t s.q) e.length (by omega) g1
      have v2 := nextV_range t (nextP t s.q) (n := (e.length : Int)) (by omega)
      obtain ⟨i2, hi2⟩ := Int.eq_ofNat_of_zero_le v2.1
      rw [hi2] at v2 n2 hPR
      rw [← hel] at n2
      rw [Int.toNat_natCast] at hPR
      have hi2l : i2 < e.length := by omega
      have hg2 := relRows_get hi2l
      have hgd2 : e.getD i2 [] = e[i2] := by simp [hi2l]
      rw [hgd2] at hPR
      have hr11 := h11F _ (List.getElem_mem hi2l)
      rw [← hPR] at hg2 hr11
      clear hPR hgd2
      obtain ⟨r0, r1, r2, r3, r4, r5, r6, r7, r8, r9, r10, rfl⟩ := rel11 hr11
      have hpA : ∀ q, pathAdd s [r0, r1, r2, r3, r4, r5, r6, r7, r8, r9, r10] q = ⟨s.tabs ++ [r2], s.steps ++ [Stp.mk r0 r1 r2 r3], q⟩ := fun q => rfl
      rw [hpA, hpA, show [r0, r1, r2, r3, r4, r5, r6, r7, r8, r9, r10].getD 2 0 = r2 from rfl] at hpS
      generalize nextP t (nextP t s.q) = q3 at *
      generalize nextP t s.q = q1' at *
      (refine gGo ?_; intros)
      (refine gCA [(0, 0)] [] [] (n2) ?_; conv => whnf)
      (refine gGo ?_; intros)
      refine rowAt_of (by simpa using hg2) ?_
      conv => whnf
      (refine gGo ?_; intros)
      refine W.leG (mp := [(80, 80), (0, 0), (4, 4), (5, 5), (25, 25), (91, 91), (10, 10)]) (bo := []) (st' := ⟨[(0, .bp 0 0), (4, .bp 4 0), (5, .bp 5 0), (6, .osl 25 0 0 (intRows .i64 s.tabs).length (intRows .i64 s.tabs).length), (7, .sl (relRows E) false), (8, .int .i64 ((m + 1 : Nat) : Int)), (10, .bp 10 0), (11, .bool false), (53, .osl 25 0 0 (intRows .i64 s.tabs).length (intRows .i64 s.tabs).length), (54, .int .i64 (intRows .i64 s.tabs).length), (55, .int .i64 0)], [(80, [.rows 3 (tblRows l) (some [])]), (0, [diceB t (q3)]), (4, [.rows 2 [[.int .i64 0, .nils]] none]), (5, [.rows 2 [[.int .i64 start, .osl 91 0 0 (stpRows s.steps).length (stpRows s.steps).length]] none]), (25, [.rows 1 (intRows .i64 s.tabs) (some [])]), (91, [.rows 4 (stpRows s.steps) (some [])]), (10, [.rows 11 [intsV [r0, r1, r2, r3, r4, r5, r6, r7, r8, r9, r10]] none])], [80, 0, 4, 5, 25, 91, 10]⟩)
        (LeG.mq (.ci 80 (.ci 0 (.ci 4 (.ci 5 (.ci 25 (.ci 91 (.ci 10 .nil)))))))) ?_
      refine W.loopG (fun n st => ∃ j : Nat, j ≤ s.tabs.length ∧ n = s.tabs.length - j ∧ st = ⟨[(0, .bp 0 0), (4, .bp 4 0), (5, .bp 5 0), (6, .osl 25 0 0 (intRows .i64 s.tabs).length (intRows .i64 s.tabs).length), (7, .sl (relRows E) false), (8, .int .i64 ((m + 1 : Nat) : Int)), (10, .bp 10 0), (11, .bool (decide (r2 ∈ s.tabs.take j))), (53, .osl 25 0 0 (intRows .i64 s.tabs).length (intRows .i64 s.tabs).length), (54, .int .i64 (intRows .i64 s.tabs).length), (55, .int .i64 j)], [(80, [.rows 3 (tblRows l) (some [])]), (0, [diceB t (q3)]), (4, [.rows 2 [[.int .i64 0, .nils]] none]), (5, [.rows 2 [[.int .i64 start, .osl 91 0 0 (stpRows s.steps).length (stpRows s.steps).length]] none]), (25, [.rows 1 (intRows .i64 s.tabs) (some [])]), (91, [.rows 4 (stpRows s.steps) (some [])]), (10, [.rows 11 [intsV [r0, r1, r2, r3, r4, r5, r6, r7, r8, r9, r10]] none])], [80, 0, 4, 5, 25, 91, 10]⟩)
        s.tabs.length _ ⟨0, by omega, by omega, rfl⟩ ⟨[(80, 80), (0, 0), (4, 4), (5, 5), (25, 25), (91, 91), (10, 10)], [], [], .mq (.ci 80 (.ci 0 (.ci 4 (.ci 5 (.ci 25 (.ci 91 (.ci 10 .nil)))))))⟩ ?_
      rintro n st ⟨j, hj, rfl, rfl⟩
      (refine gGo ?_; intros)
      refine boolRes_split (fun hb => ?_) (fun hb => ?_) <;> conv => whnf
      · have hjl : j < s.tabs.length := by omega
        have hgj := intRows_get (k := .i64) hjl
        have htk : decide (r2 ∈ s.tabs.take (j + 1)) = (decide (r2 ∈ s.tabs.take j) || decide (s.tabs[j] = r2)) := by
          rw [List.take_succ_eq_append_getElem hjl, Bool.eq_iff_iff]
          simp only [decide_eq_true_eq, Bool.or_eq_true, List.mem_append, List.mem_singleton]
          exact ⟨fun h => h.imp id Eq.symm, fun h => h.imp id Eq.symm⟩
        generalize s.tabs[j] = tj at *
        cases hd : decide (r2 ∈ s.tabs.take j) with
        | true =>
          rw [hd, Bool.true_or] at htk
          (refine gGo ?_; intros)
          refine rowAt_of (r := [.int .i64 tj]) (by rw [Nat.zero_add, Int.toNat_natCast]; exact hgj) ?_
          conv => whnf
          (refine gGo ?_; intros)
          refine ⟨_, _, ?_, ⟨j + 1, by omega, rfl, rfl⟩, ?_⟩
          · omega
          · rw [htk]; exact ⟨[(80, 80), (0, 0), (4, 4), (5, 5), (25, 25), (91, 91), (10, 10)], [], [], .mq (.ci 80 (.ci 0 (.ci 4 (.ci 5 (.ci 25 (.ci 91 (.ci 10 .nil)))))))⟩
        | false =>
          rw [hd, Bool.false_or] at htk
          (refine gGo ?_; intros)
          refine rowAt_of (r := [.int .i64 tj]) (by rw [Nat.zero_add, Int.toNat_natCast]; exact hgj) ?_
          conv => whnf
          (refine gGo ?_; intros)
          refine boolRes_split (fun hb => ?_) (fun hb => ?_) <;> conv => whnf
          · rw [decide_eq_true hb] at htk
            (refine gGo ?_; intros)
            refine ⟨_, _, ?_, ⟨j + 1, by omega, rfl, rfl⟩, ?_⟩
            · omega
            · rw [htk]; exact ⟨[(80, 80), (0, 0), (4, 4), (5, 5), (25, 25), (91, 91), (10, 10)], [], [], .mq (.ci 80 (.ci 0 (.ci 4 (.ci 5 (.ci 25 (.ci 91 (.ci 10 .nil)))))))⟩
          · rw [decide_eq_false hb] at htk
            (refine gGo ?_; intros)
            refine ⟨_, _, ?_, ⟨j + 1, by omega, rfl, rfl⟩, ?_⟩
            · omega
            · rw [htk]; exact ⟨[(80, 80), (0, 0), (4, 4), (5, 5), (25, 25), (91, 91), (10, 10)], [], [], .mq (.ci 80 (.ci 0 (.ci 4 (.ci 5 (.ci 25 (.ci 91 (.ci 10 .nil)))))))⟩
      · have hje : j = s.tabs.length := by omega
        subst hje
        rw [List.take_length]
        have hap : intRows .i64 (s.tabs ++ [r2]) = intRows .i64 s.tabs ++ [[.int .i64 r2]] := by simp [intRows]
        have hsp := stpRows_snoc s.steps ⟨r0, r1, r2, r3⟩
        cases htw : decide (r2 ∈ s.tabs) with
        | false =>
          rw [if_neg (of_decide_eq_false htw)] at hpS
          (refine gGo ?_; intros)
          refine ⟨⟨rowsSz_cons rfl rowsSz_nil, rfl⟩, fitsN (n := (stpRows s.steps).length + 1) (b := 32) (by omega) (by omega), .inl ⟨rfl, rfl, ?_⟩⟩
          conv => whnf
          (refine gGo ?_; intros)
          refine ⟨⟨rowsSz_cons rfl rowsSz_nil, rfl⟩, fitsN (n := (intRows .i64 s.tabs).length + 1) (b := 8) (by omega) (by omega), .inl ⟨rfl, rfl, ?_⟩⟩
          conv => whnf
          (refine gGo ?_; intros)
          refine ⟨_, _, ?_, ⟨m, ⟨s.tabs ++ [r2], s.steps ++ [Stp.mk r0 r1 r2 r3], q3⟩, by omega, g2, by simp, (by show (s.tabs ++ [r2]).length + m ≤ _; rw [List.length_append, List.length_singleton]; omega), (by show (s.steps ++ [Stp.mk r0 r1 r2 r3]).length + m ≤ _; rw [List.length_append, List.length_singleton]; omega), (by rw [hgo, hstep, hpS]), rfl, rfl⟩, ?_⟩
          · omega
          · show LeX _ _ (⟨[(0, .bp 0 0), (4, .bp 4 0), (5, .bp 5 0), (6, .osl 25 0 0 (intRows .i64 (s.tabs ++ [r2])).length (intRows .i64 (s.tabs ++ [r2])).length), (7, .sl (relRows E) false), (8, .int .i64 m)], [(80, [.rows 3 (tblRows l) (some [])]), (0, [diceB t (q3)]), (4, [.rows 2 [[.int .i64 0, .nils]] none]), (5, [.rows 2 [[.int .i64 start, .osl 91 0 0 (stpRows (s.steps ++ [Stp.mk r0 r1 r2 r3])).length (stpRows (s.steps ++ [Stp.mk r0 r1 r2 r3])).length]] none]), (25, [.rows 1 (intRows .i64 (s.tabs ++ [r2])) (some [])]), (91, [.rows 4 (stpRows (s.steps ++ [Stp.mk r0 r1 r2 r3])) (some [])])], [80, 0, 4, 5, 25, 91]⟩)
            rw [hap, hsp, List.length_append, List.length_append]
            exact ⟨[(80, 80), (0, 0), (4, 4), (5, 5), (25, 25), (91, 91)], [], [], LeG.mk' rfl rfl rfl (⟨⟨_, .refl _, rfl⟩, ⟨_, .refl _, rfl⟩, ⟨_, .refl _, rfl⟩, ⟨_, .refl _, rfl⟩, ⟨_, .refl _, rfl⟩, ⟨_, .refl _, (by show V.int .i64 (((m + 1 : Nat) : Int) - 1) = _; congr 1; omega)⟩, trivial⟩) (.ci 80 (.ci 0 (.ci 4 (.ci 5 (.ci 25 (.ci 91 .nil)))))) rfl rfl (by rw [hK]; rfl)⟩
        | true =>
          rw [if_pos (of_decide_eq_true htw)] at hpS
          have n3 := next_spec t q3 20 (by omega) g2
          (refine gGo ?_; intros)
          (refine gCA [(0, 0)] [] [] (n3) ?_; conv => whnf)
          (refine gGo ?_; intros)
          refine boolRes_split (fun hb => ?_) (fun hb => ?_) <;> conv => whnf
          · rw [if_neg hb] at hpS
            (refine gGo ?_; intros)
            refine ⟨_, _, ?_, ⟨m, ⟨s.tabs, s.steps, nextP t q3⟩, by omega, g3, hne, (by show s.tabs.length + m ≤ _; omega), (by show s.steps.length + m ≤ _; omega), (by rw [hgo, hstep, hpS]), rfl, rfl⟩, ⟨[(80, 80), (0, 0), (4, 4), (5, 5), (25, 25), (91, 91)], [], [], LeG.mk' rfl rfl rfl (⟨⟨_, .refl _, rfl⟩, ⟨_, .refl _, rfl⟩, ⟨_, .refl _, rfl⟩, ⟨_, .refl _, rfl⟩, ⟨_, .refl _, rfl⟩, ⟨_, .refl _, (by show V.int .i64 (((m + 1 : Nat) : Int) - 1) = _; congr 1; omega)⟩, trivial⟩) (.ci 80 (.ci 0 (.ci 4 (.ci 5 (.ci 25 (.ci 91 .nil)))))) rfl rfl (by rw [hK]; rfl)⟩⟩
            omega
          · rw [if_pos (by omega)] at hpS
            (refine gGo ?_; intros)
            refine ⟨⟨rowsSz_cons rfl rowsSz_nil, rfl⟩, fitsN (n := (stpRows s.steps).length + 1) (b := 32) (by omega) (by omega), .inl ⟨rfl, rfl, ?_⟩⟩
            conv => whnf
            (refine gGo ?_; intros)
            refine ⟨⟨rowsSz_cons rfl rowsSz_nil, rfl⟩, fitsN (n := (intRows .i64 s.tabs).length + 1) (b := 8) (by omega) (by omega), .inl ⟨rfl, rfl, ?_⟩⟩
            conv => whnf
            (refine gGo ?_; intros)
            refine ⟨_, _, ?_, ⟨m, ⟨s.tabs ++ [r2], s.steps ++ [Stp.mk r0 r1 r2 r3], nextP t q3⟩, by omega, g3, by simp, (by show (s.tabs ++ [r2]).length + m ≤ _; rw [List.length_append, List.length_singleton]; omega), (by show (s.steps ++ [Stp.mk r0 r1 r2 r3]).length + m ≤ _; rw [List.length_append, List.length_singleton]; omega), (by rw [hgo, hstep, hpS]), rfl, rfl⟩, ?_⟩
            · omega
            · show LeX _ _ (⟨[(0, .bp 0 0), (4, .bp 4 0), (5, .bp 5 0), (6, .osl 25 0 0 (intRows .i64 (s.tabs ++ [r2])).length (intRows .i64 (s.tabs ++ [r2])).length), (7, .sl (relRows E) false), (8, .int .i64 m)], [(80, [.rows 3 (tblRows l) (some [])]), (0, [diceB t (nextP t q3)]), (4, [.rows 2 [[.int .i64 0, .nils]] none]), (5, [.rows 2 [[.int .i64 start, .osl 91 0 0 (stpRows (s.steps ++ [Stp.mk r0 r1 r2 r3])).length (stpRows (s.steps ++ [Stp.mk r0 r1 r2 r3])).length]] none]), (25, [.rows 1 (intRows .i64 (s.tabs ++ [r2])) (some [])]), (91, [.rows 4 (stpRows (s.steps ++ [Stp.mk r0 r1 r2 r3])) (some [])])], [80, 0, 4, 5, 25, 91]⟩)
              rw [hap, hsp, List.length_append, List.length_append]
              exact ⟨[(80, 80), (0, 0), (4, 4), (5, 5), (25, 25), (91, 91)], [], [], LeG.mk' rfl rfl rfl (⟨⟨_, .refl _, rfl⟩, ⟨_, .refl _, rfl⟩, ⟨_, .refl _, rfl⟩, ⟨_, .refl _, rfl⟩, ⟨_, .refl _, rfl⟩, ⟨_, .refl _, (by show V.int .i64 (((m + 1 : Nat) : Int) - 1) = _; congr 1; omega)⟩, trivial⟩) (.ci 80 (.ci 0 (.ci 4 (.ci 5 (.ci 25 (.ci 91 .nil)))))) rfl rfl (by rw [hK]; rfl)⟩
  · have hn0 : n = 0 := by omega
    subst hn0
    have hgo : pathGo t E K ⟨[start], [], q2⟩ = s := hgo
    rw [hgo]
    (refine gGo ?_; intros)
    (refine gM ?_; conv => whnf)
    exact retH rfl (.refl _) rfl rfl rfl ⟨rfl, rfl, rfl, rfl, rfl, rfl, trivial⟩
end Go.Sx.Sp
namespace Go.Sx.Sp
open Go Go.Sx Go.Proofs
attribute [local irreducible] GoodW famL
theorem wf_ref {n : Nat} {vs : List V} (hs : shape T (n + 2) 50 vs) : ∃ x y : Int, vs = [.int .i64 x, .int .i64 y] := by
  obtain ⟨a, b, rfl, ha, c, d, rfl, hc, rfl⟩ := shape_st (T := T) (t := 50) rfl hs
  obtain ⟨x, rfl, _⟩ := shape_int (T := T) (t := 3) rfl ha
  obtain ⟨y, rfl, _⟩ := shape_int (T := T) (t := 3) rfl hc
  exact ⟨x, y, rfl⟩
theorem wf_steps {n : Nat} {rows : List (List V)} (hs : ∀ r ∈ rows, shape T (n + 3) 52 r) : ∃ l : List Stp, rows = stpRows l := by
  obtain ⟨l, h, _⟩ := rows_map (f := Stp.row) (p := fun _ => True) (rows := rows) fun r hr => by
    obtain ⟨a, b, rfl, ha, c, d, rfl, hc, rfl⟩ := shape_st (T := T) (t := 52) rfl (hs r hr)
    obtain ⟨x, y, rfl⟩ := wf_ref ha
    obtain ⟨z, u, rfl⟩ := wf_ref hc
    exact ⟨⟨x, y, z, u⟩, rfl, trivial⟩
  exact ⟨l, h⟩
theorem wf_path {n : Nat} {vs : List V} (hs : shape T (n + 5) 25 vs) : ∃ p : Pth, vs = p.row := by
  obtain ⟨a, b, rfl, ha, c, d, rfl, hc, rfl⟩ := shape_st (T := T) (t := 25) rfl hs
  obtain ⟨x, rfl, _⟩ := shape_int (T := T) (t := 3) rfl ha
  obtain ⟨q, rfl, _, hq⟩ := shape_sl (T := T) (t := 23) rfl hc
  obtain ⟨l, rfl⟩ := wf_steps hq
  exact ⟨⟨x, l⟩, rfl⟩
theorem arg_path {n : Nat} {u : V} (hs : argShape T (n + 5) 25 u) : ∃ p : Pth, u = .agg p.row := by
  obtain ⟨vs, rfl, h⟩ := argShape_agg (T := T) (t := 25) rfl rfl hs
  obtain ⟨p, rfl⟩ := wf_path h
  exact ⟨p, rfl⟩
theorem tblRows_add (l : List Table) (x : Table) : tblRows (l ++ [x]) = tblRows l ++ [x.row] := by simp [tblRows]
end Go.Sx.Sp
namespace Go.Sx.Sp
open Go Go.Sx Go.Proofs
attribute [local irreducible] GoodW famL
set_option maxHeartbeats 16000000 in
theorem path31_spec (l : List Table) (p : Pth) : Spec Tryz.prog 25 [.sl (tblRows l) false, .agg p.row] [] (.tup [.agg (pathJ l p).1.row, .int .i64 (pathJ l p).2]) [] := by
  have sp1 := valid31_spec l p
  by_cases h : validE l p = 0
  · rw [h] at sp1
    have h4 := (valid_path h).2.1
    have spT := tables31_spec l p (by omega)
    have sp2 := rows52_spec h
    have hml := tabsM_len l p
    have hmem : ∀ x ∈ rowsL l p, x.length = p.steps.length + 1 ∧ ∀ i, i ≤ p.steps.length → x.getD i 0 < rowsN (tabN l p i) := fun x hx => by
      obtain ⟨g1, g2⟩ := rowsL_mem hx
      exact ⟨g1, fun i hi => g2.lt i (by omega)⟩
    have htab : ∀ i, i ≤ p.steps.length → (tabsM l p)[i]? = some (tabN l p i) := fun i hi => tabsM_get l p hi
    have hval : ∀ i, i ≤ p.steps.length → validB (tabN l p i) = true := fun i hi => tabN_ok h hi
    have hvt : ∀ t ∈ tabsM l p, validB t = true := fun t ht => by
      obtain ⟨i, hi, rfl⟩ := List.getElem_of_mem ht
      have h1 := htab i (by omega)
      rw [List.getElem?_eq_getElem hi] at h1
      rw [Option.some.inj h1]
      exact hval i (by omega)
    have hm2 : ∀ r ∈ rowsL l p, (tabsM l p).length ≤ r.length ∧ ∀ (i : Nat) t, (tabsM l p)[i]? = some t → r.getD i 0 < rowsN t := fun r hr => by
      obtain ⟨g1, g2⟩ := hmem r hr
      refine ⟨by omega, fun i t hi => ?_⟩
      have hlt := (List.getElem?_eq_some_iff.1 hi).1
      have h1 := htab i (by omega)
      rw [hi] at h1
      rw [Option.some.inj h1]
      exact g2 i (by omega)
    have hJ : pathJ l p = if atN (tabsM l p) (tabsM l p).length ≤ 64 then (if (rowsL l p).length ≤ 4096 then (togT (tabsM l p) (rowsL l p), 0) else (Table.zero, 3)) else (Table.zero, 3) := by
      unfold pathJ planE
      rw [if_pos h, hml]
      by_cases a : (rowsL l p).length ≤ 4096
      · simp [a]
      · simp [a]
    obtain ⟨t0, ts, hts⟩ : ∃ t0 ts, tabsM l p = t0 :: ts := ⟨_, _, rfl⟩
    have spG := fun hR => together_spec t0 ts (rowsL l p) (by rw [← hts]; omega) hR (by rw [← hts]; exact hvt) (by rw [← hts]; exact hm2)
    rw [← hts] at spG
    have hcs : ∀ t ∈ tabsM l p, t.cols.length ≤ 64 := fun t ht => validB_cols (hvt t ht)
    clear hts
    obtain ⟨TS, hTS⟩ : ∃ TS, TS = tabsM l p := ⟨_, rfl⟩
    rw [← hTS] at spG spT hJ hcs hml
    have htl := tblRows_len TS
    have hat : ∀ k, k ≤ TS.length → atN TS k ≤ k * 64 := fun k => by
      induction k with
      | zero => intro _; simp [atN]
      | succ k ih =>
        intro h2
        have h3 : TS[k]? = some TS[k] := List.getElem?_eq_getElem (by omega)
        rw [atN_succ h3]
        have := ih (by omega)
        have := hcs _ (List.getElem_mem (show k < TS.length by omega))
        omega
    rw [hJ]
    clear hJ
    refine gEn env Tryz.func25 fun Γ hN hK hML => ?_
    (refine gGo ?_; intros)
    (refine gPC (sp1) ?_; conv => whnf)
    (refine gGo ?_; intros)
    (refine gPC (spT) ?_; conv => whnf)
    (refine gGs ?_; intros)
    refine W.leG (mp := [(3, 3), (4, 4)]) (bo := []) (st' := ⟨[(0, .sl (tblRows l) false), (3, .bp 3 0), (4, .bp 4 0), (7, .sl (tblRows TS) false)], [(3, [.rows 2 [p.row] none]), (4, [.rows 3 [[.int .i64 0, .str [], .nils]] none])], [3, 4]⟩)
      (LeG.mq (.ci 3 (.ci 4 .nil))) ?_
    (refine gGo ?_; intros)
    refine W.leG (mp := [(3, 3), (4, 4)]) (bo := []) (st' := ⟨[(0, .sl (tblRows l) false), (3, .bp 3 0), (4, .bp 4 0), (7, .sl (tblRows TS) false), (8, .int .i64 (atN TS 0 : Nat)), (23, .sl (tblRows TS) false), (24, .int .i64 (tblRows TS).length), (25, .int .i64 (0 : Nat))], [(3, [.rows 2 [p.row] none]), (4, [.rows 3 [[.int .i64 0, .str [], .nils]] none])], [3, 4]⟩)
      (LeG.mq (.ci 3 (.ci 4 .nil))) ?_
    refine W.loopG (fun m st => ∃ k : Nat, k ≤ TS.length ∧ m = TS.length - k ∧ st = ⟨[(0, .sl (tblRows l) false), (3, .bp 3 0), (4, .bp 4 0), (7, .sl (tblRows TS) false), (8, .int .i64 (atN TS k : Nat)), (23, .sl (tblRows TS) false), (24, .int .i64 (tblRows TS).length), (25, .int .i64 k)], [(3, [.rows 2 [p.row] none]), (4, [.rows 3 [[.int .i64 0, .str [], .nils]] none])], [3, 4]⟩)
      TS.length _ ⟨0, by omega, by omega, rfl⟩ ⟨[(3, 3), (4, 4)], [], [], .mq (.ci 3 (.ci 4 .nil))⟩ ?_
    rintro m st ⟨k, hk, rfl, rfl⟩
    have hak := hat k hk
    (refine gGo ?_; intros)
    refine boolRes_split (fun hb => ?_) (fun hb => ?_) <;> conv => whnf
    · have hlt : k < TS.length := by omega
      have hg := tblRows_get hlt
      have hsu := atN_succ (List.getElem?_eq_getElem hlt)
      have hc := hcs _ (List.getElem_mem hlt)
      generalize TS[k] = t at *
      have hcl := colRows_len t.cols
      (refine gGo ?_; intros)
      refine rowAt_of (r := t.row) (by simpa using hg) ?_
      conv => whnf
      (refine gGo ?_; intros)
      refine ⟨_, _, ?_, ⟨k + 1, by omega, rfl, rfl⟩, [(3, 3), (4, 4)], [], [], LeG.mk' rfl rfl rfl (by rw [hsu, Int.natCast_add, ← hcl]; exact (by repeat' (first | exact trivial | exact ⟨_, .refl _, rfl⟩ | apply And.intro))) (.ci 3 (.ci 4 .nil)) rfl rfl (by rw [hK]; rfl)⟩
      omega
    · have hke : k = TS.length := by omega
      rw [hke]
      have hae := hat TS.length (Nat.le_refl _)
      generalize atN TS TS.length = A at *
      by_cases hA : A ≤ 64
      · rw [if_pos hA]
        by_cases hR : (rowsL l p).length ≤ 4096
        · rw [if_pos hR]
          rw [if_pos hR, decide_eq_true hR] at sp2
          have spG := spG hR
          generalize togT TS (rowsL l p) = TT at *
          generalize rowsL l p = RL at *
          (refine gGo ?_; intros)
          (refine gPC (sp2) ?_; conv => whnf)
          (refine gGo ?_; intros)
          (refine gPC (spG) ?_; conv => whnf)
          (refine gGo ?_; intros)
          (refine gM ?_; conv => whnf)
          exact retH rfl (.norm _) rfl rfl rfl trivial
        · rw [if_neg hR]
          rw [if_neg hR, decide_eq_false hR] at sp2
          (refine gGo ?_; intros)
          (refine gPC (sp2) ?_; conv => whnf)
          (refine gGo ?_; intros)
          (refine gM ?_; conv => whnf)
          exact retH rfl (.norm _) rfl rfl rfl trivial
      · rw [if_neg hA]
        (refine gGo ?_; intros)
        (refine gM ?_; conv => whnf)
        exact retH rfl (.norm _) rfl rfl rfl trivial
  · have hJ : pathJ l p = (Table.zero, validE l p) := by
      unfold pathJ planE
      rw [if_neg h, if_neg h]
    rw [hJ]
    generalize validE l p = e at *
    refine gEn env Tryz.func25 fun Γ hN hK hML => ?_
    (refine gGo ?_; intros)
    (refine gPC (sp1) ?_; conv => whnf)
    (refine gGo ?_; intros)
    (refine gM ?_; conv => whnf)
    exact retH rfl (.norm _) rfl rfl rfl trivial
end Go.Sx.Sp
namespace Go.Sx.Sp
open Go Go.Sx Go.Proofs
attribute [local irreducible] GoodW famL
theorem pathGo_steps (t : List Int) (E : List (List Int)) : ∀ k s, (pathGo t E k s).steps.length ≤ s.steps.length + k
  | 0, s => Nat.le_refl _
  | k + 1, s => by
    have ih := pathGo_steps t E k (pathStep t E s)
    have h1 : (pathStep t E s).steps.length ≤ s.steps.length + 1 := by
      unfold pathStep
      repeat' split
      all_goals first | exact Nat.le_succ _ | (unfold pathAdd; simp)
    show (pathGo t E k (pathStep t E s)).steps.length ≤ _
    omega
theorem pathF_steps (t : List Int) (l : List Table) (q : Nat) : (pathF t l q).1.steps.length ≤ 4 := by
  have h1 := pathGo_steps t (edges l) (nextV t (nextP t q) 4).toNat ⟨[(l.getD (nextV t q l.length).toNat Table.zero).id], [], nextP t (nextP t q)⟩
  have h2 := nextV_range t (nextP t q) (n := 4) (by omega)
  show (pathGo t (edges l) (nextV t (nextP t q) 4).toNat ⟨[(l.getD (nextV t q l.length).toNat Table.zero).id], [], nextP t (nextP t q)⟩).steps.length ≤ 4
  simp only [List.length_nil] at h1
  omega
theorem tdiv5 {x : Int} (h : -9223372036854775808 ≤ x ∧ x ≤ 9223372036854775807) : -9223372036854775808 ≤ x.tdiv 5 ∧ x.tdiv 5 ≤ 9223372036854775807 := by
  rcases Int.le_total 0 x with h0 | h0
  · rw [Int.tdiv_eq_ediv_of_nonneg h0]; omega
  · obtain ⟨y, rfl⟩ : ∃ y, x = -y := ⟨-x, by omega⟩
    rw [Int.neg_tdiv, Int.tdiv_eq_ediv_of_nonneg (by omega)]; omega
set_option maxHeartbeats 16000000 in
theorem paths_law (t : List Int) (raw : Pth) (what at' by' : Int) (hby : -9223372036854775808 ≤ by' ∧ by' ≤ 9223372036854775807) : Spec Tryz.prog 4 [.sl (intRows .i64 t) false, .agg raw.row, .int .i64 what, .int .i64 at', .int .i64 by'] [] (.bool true) [] := by
  have hl := intRows_len .i64 t
  have spL := light_spec t
  have spA := awake31_spec
  have hrl := stpRows_len raw.steps
  have spM9 := mod_spec what 9 (by decide)
  have hq5 := tdiv5 hby
  by_cases hll : t.length ≤ 500
  · rw [decide_eq_true hll] at spL
    by_cases hr10 : raw.steps.length ≤ 10
    · obtain ⟨⟨j1, j2⟩, j3, j4⟩ := joined_ok (l := t) (most := 4) (p := 0) (by omega) (Nat.zero_le _)
      have spJ := joined_own t 4 0 (by omega) (Nat.zero_le _)
      generalize (joinedF t 4 0).1 = L at *
      generalize (joinedF t 4 0).2 = q at *
      have j2 : L.length ≤ 4 := j2
      have hlist := listB_J j3 (by omega)
      have spP := path_own2 t L q hlist (by omega) (by omega) j4
      have hp3 := pathF_steps t L q
      generalize (pathF t L q).1 = p0 at *
      generalize (pathF t L q).2 = q2 at *
      have hLl := tblRows_len L
      obtain ⟨x, hx⟩ : ∃ x, L[0]? = some x := ⟨L[0], List.getElem?_eq_getElem (by omega)⟩
      have hx0 : (tblRows L)[0]? = some x.row := by unfold tblRows; rw [List.getElem?_map, hx]; rfl
      have hpl := stpRows_len p0.steps
      refine gEn env Tryz.func4 fun Γ hN hK hML => ?_
      (refine gGo ?_; intros)
      (refine gPC (spL) ?_; conv => whnf)
      (refine gGo ?_; intros)
      (refine gCA [] [(5, 70)] [] (roll_spec t) ?_; conv => whnf)
      (refine gGo ?_; intros)
      (refine gCA [(0, 70)] [(90, 80)] [] (spJ) ?_; conv => whnf)
      (refine gGo ?_; intros)
      (refine gCA [(0, 70), (80, 80)] [(91, 81)] [] (spP) ?_; conv => whnf)
      (refine gGs ?_; intros)
      refine W.leG (mp := [(6, 6), (13, 13), (80, 80), (81, 81)]) (bo := []) (st' := ⟨[(2, .int .i64 what), (3, .int .i64 at'), (4, .int .i64 by'), (6, .bp 6 0), (12, .osl 80 0 0 (tblRows L).length (tblRows L).length), (13, .bp 13 0)], [(6, [.rows 2 [raw.row] none]), (13, [.rows 2 [[.int .i64 p0.start, .osl 81 0 0 (stpRows p0.steps).length (stpRows p0.steps).length]] none]), (80, [.rows 3 (tblRows L) (some [])]), (81, [.rows 4 (stpRows p0.steps) (some [])])], [6, 13, 80, 81]⟩)
        (LeG.mq (.ci 6 (.ci 13 (.ci 80 (.ci 81 .nil))))) ?_
      (refine gGo ?_; intros)
      (refine gPC (spM9) ?_; conv => whnf)
      (refine gGs ?_; intros)
      refine gB ?_
      refine gA ?_
      by_cases w0 : modK what 9 = 0
      · refine gE env hN (by kernel_rfl) ?_
        conv => whnf
        (refine gGs ?_; intros)
        refine gC rfl ?_
        refine gE env hN (by kernel_rfl) ?_
        conv => whnf
        (refine gGs ?_; intros)
        refine W.leG (mp := [(13, 13)]) (bo := [80, 81]) (st' := ⟨[(12, .sl (tblRows (L)) false), (13, .bp 13 0)], [(13, [.rows 2 [Pth.row (raw)] none])], [13]⟩)
          (LeG.mk' rfl rfl rfl ⟨⟨_, Lent.whole rfl rfl rfl rfl (.inl rfl), rfl⟩, ⟨_, .refl _, rfl⟩, trivial⟩ (.cons 13 (b1 := .rows 2 [Pth.row (raw)] none) rfl rfl (.rows _ _ _ (by repeat' (first | exact trivial | exact ⟨Lent.refl _, rfl⟩ | exact ⟨Lent.norm _, rfl⟩ | exact ⟨Lent.whole rfl rfl (by first | rfl | exact List.length_append.symm | exact hlenR | simp) rfl (by first | exact .inl rfl | exact .inr rfl), rfl⟩ | apply And.intro))) rfl .nil) rfl rfl (by rw [hK]; rfl)) ?_
        have spV1 := validP_spec (L) (raw)
        have spV2 := valid31_spec (L) (raw)
        have spR1 := rowsJ_spec (L) (raw)
        have spR2 := rows31_spec (L) (raw)
        have spP1 := pathJ_spec (L) (raw)
        have spP2 := path31_spec (L) (raw)
        generalize validE (L) (raw) = ev at *
        generalize (rowsE (L) (raw)).1 = ra at *
        generalize (rowsE (L) (raw)).2 = e1 at *
        generalize (pathJ (L) (raw)).1 = tj at *
        generalize (pathJ (L) (raw)).2 = e2 at *
        have spS := sameRows_spec31 ra ra
        have spT := same3_spec tj tj
        rw [decide_eq_true rfl] at spS spT
        (refine gGo ?_; intros)
        (refine gPC (spV1) ?_; conv => whnf)
        (refine gGo ?_; intros)
        (refine gPC (spV2) ?_; conv => whnf)
        (refine gGs ?_; intros)
        refine gD rfl ?_
        refine gF ?_
        conv => whnf
        refine W.leG (mp := [(13, 13)]) (bo := []) (st' := ⟨[(12, .sl (tblRows (L)) false), (13, .bp 13 0)], [(13, [.rows 2 [Pth.row (raw)] none])], [13]⟩)
          (LeG.mq (.ci 13 .nil)) ?_
        (refine gGo ?_; intros)
        (refine gPC (spR1) ?_; conv => whnf)
        (refine gGs ?_; intros)
        refine W.leG (mp := [(13, 13)]) (bo := []) (st' := ⟨[(12, .sl (tblRows (L)) false), (13, .bp 13 0), (14, .sl (rowRows ra) false), (15, .int .i64 e1)], [(13, [.rows 2 [Pth.row (raw)] none])], [13]⟩)
          (LeG.mq (.ci 13 .nil)) ?_
        (refine gGo ?_; intros)
        (refine gPC (spR2) ?_; conv => whnf)
        (refine gGs ?_; intros)
        refine W.leG (mp := [(13, 13)]) (bo := []) (st' := ⟨[(12, .sl (tblRows (L)) false), (13, .bp 13 0), (14, .sl (rowRows ra) false), (15, .int .i64 e1), (16, .sl (rowRows ra) false), (17, .int .i64 e1)], [(13, [.rows 2 [Pth.row (raw)] none])], [13]⟩)
          (LeG.mq (.ci 13 .nil)) ?_
        (refine gGo ?_; intros)
        (refine gPC (spP1) ?_; conv => whnf)
        (refine gGs ?_; intros)
        refine W.leG (mp := [(13, 13), (18, 18)]) (bo := []) (st' := ⟨[(12, .sl (tblRows (L)) false), (13, .bp 13 0), (14, .sl (rowRows ra) false), (15, .int .i64 e1), (16, .sl (rowRows ra) false), (17, .int .i64 e1), (18, .bp 18 0), (19, .int .i64 e2)], [(13, [.rows 2 [Pth.row (raw)] none]), (18, [.rows 3 [tj.row] none])], [13, 18]⟩)
          (LeG.mq (.ci 13 (.ci 18 .nil))) ?_
        (refine gGo ?_; intros)
        (refine gPC (spP2) ?_; conv => whnf)
        (refine gGs ?_; intros)
        refine W.leG (mp := [(13, 13), (18, 18), (20, 20)]) (bo := []) (st' := ⟨[(12, .sl (tblRows (L)) false), (13, .bp 13 0), (14, .sl (rowRows ra) false), (15, .int .i64 e1), (16, .sl (rowRows ra) false), (17, .int .i64 e1), (18, .bp 18 0), (19, .int .i64 e2), (20, .bp 20 0), (21, .int .i64 e2)], [(13, [.rows 2 [Pth.row (raw)] none]), (18, [.rows 3 [tj.row] none]), (20, [.rows 3 [tj.row] none])], [13, 18, 20]⟩)
          (LeG.mq (.ci 13 (.ci 18 (.ci 20 .nil)))) ?_
        (refine gGo ?_; intros)
        (refine gPC (spS) ?_; conv => whnf)
        (refine gGo ?_; intros)
        (refine gPC (spT) ?_; conv => whnf)
        (refine gGo ?_; intros)
        (refine gPC (spA) ?_; conv => whnf)
        (refine gGr ?_; intros)
        exact ret0 rfl rfl rfl
      by_cases w1 : modK what 9 = 1
      · have spB := mod_spec by' 6 (by decide)
        refine gE env hN (by kernel_rfl) ?_
        conv => whnf
        (refine gGs ?_; intros)
        refine gD rfl ?_
        refine gA ?_
        refine gE env hN (by kernel_rfl) ?_
        conv => whnf
        (refine gGs ?_; intros)
        refine gC rfl ?_
        refine gE env hN (by kernel_rfl) ?_
        conv => whnf
        (refine gGs ?_; intros)
        (refine gPC (spB) ?_; conv => whnf)
        (refine gGs ?_; intros)
        refine W.leG (mp := [(13, 13)]) (bo := [80, 81]) (st' := ⟨[(12, .sl (tblRows (L)) false), (13, .bp 13 0)], [(13, [.rows 2 [Pth.row (⟨modK by' 6, p0.steps⟩)] none])], [13]⟩)
          (LeG.mk' rfl rfl rfl ⟨⟨_, Lent.whole rfl rfl rfl rfl (.inl rfl), rfl⟩, ⟨_, .refl _, rfl⟩, trivial⟩ (.cons 13 (b1 := .rows 2 [Pth.row (⟨modK by' 6, p0.steps⟩)] none) rfl rfl (.rows _ _ _ (by repeat' (first | exact trivial | exact ⟨Lent.refl _, rfl⟩ | exact ⟨Lent.norm _, rfl⟩ | exact ⟨Lent.whole rfl rfl (by first | rfl | exact List.length_append.symm | exact hlenR | simp) rfl (by first | exact .inl rfl | exact .inr rfl), rfl⟩ | apply And.intro))) rfl .nil) rfl rfl (by rw [hK]; rfl)) ?_
        have spV1 := validP_spec (L) (⟨modK by' 6, p0.steps⟩)
        have spV2 := valid31_spec (L) (⟨modK by' 6, p0.steps⟩)
        have spR1 := rowsJ_spec (L) (⟨modK by' 6, p0.steps⟩)
        have spR2 := rows31_spec (L) (⟨modK by' 6, p0.steps⟩)
        have spP1 := pathJ_spec (L) (⟨modK by' 6, p0.steps⟩)
        have spP2 := path31_spec (L) (⟨modK by' 6, p0.steps⟩)
        generalize validE (L) (⟨modK by' 6, p0.steps⟩) = ev at *
        generalize (rowsE (L) (⟨modK by' 6, p0.steps⟩)).1 = ra at *
        generalize (rowsE (L) (⟨modK by' 6, p0.steps⟩)).2 = e1 at *
        generalize (pathJ (L) (⟨modK by' 6, p0.steps⟩)).1 = tj at *
        generalize (pathJ (L) (⟨modK by' 6, p0.steps⟩)).2 = e2 at *
        have spS := sameRows_spec31 ra ra
        have spT := same3_spec tj tj
        rw [decide_eq_true rfl] at spS spT
        (refine gGo ?_; intros)
        (refine gPC (spV1) ?_; conv => whnf)
        (refine gGo ?_; intros)
        (refine gPC (spV2) ?_; conv => whnf)
        (refine gGs ?_; intros)
        refine gD rfl ?_
        refine gF ?_
        conv => whnf
        refine W.leG (mp := [(13, 13)]) (bo := []) (st' := ⟨[(12, .sl (tblRows (L)) false), (13, .bp 13 0)], [(13, [.rows 2 [Pth.row (⟨modK by' 6, p0.steps⟩)] none])], [13]⟩)
          (LeG.mq (.ci 13 .nil)) ?_
        (refine gGo ?_; intros)
        (refine gPC (spR1) ?_; conv => whnf)
        (refine gGs ?_; intros)
        refine W.leG (mp := [(13, 13)]) (bo := []) (st' := ⟨[(12, .sl (tblRows (L)) false), (13, .bp 13 0), (14, .sl (rowRows ra) false), (15, .int .i64 e1)], [(13, [.rows 2 [Pth.row (⟨modK by' 6, p0.steps⟩)] none])], [13]⟩)
          (LeG.mq (.ci 13 .nil)) ?_
        (refine gGo ?_; intros)
        (refine gPC (spR2) ?_; conv => whnf)
        (refine gGs ?_; intros)
        refine W.leG (mp := [(13, 13)]) (bo := []) (st' := ⟨[(12, .sl (tblRows (L)) false), (13, .bp 13 0), (14, .sl (rowRows ra) false), (15, .int .i64 e1), (16, .sl (rowRows ra) false), (17, .int .i64 e1)], [(13, [.rows 2 [Pth.row (⟨modK by' 6, p0.steps⟩)] none])], [13]⟩)
          (LeG.mq (.ci 13 .nil)) ?_
        (refine gGo ?_; intros)
        (refine gPC (spP1) ?_; conv => whnf)
        (refine gGs ?_; intros)
        refine W.leG (mp := [(13, 13), (18, 18)]) (bo := []) (st' := ⟨[(12, .sl (tblRows (L)) false), (13, .bp 13 0), (14, .sl (rowRows ra) false), (15, .int .i64 e1), (16, .sl (rowRows ra) false), (17, .int .i64 e1), (18, .bp 18 0), (19, .int .i64 e2)], [(13, [.rows 2 [Pth.row (⟨modK by' 6, p0.steps⟩)] none]), (18, [.rows 3 [tj.row] none])], [13, 18]⟩)
          (LeG.mq (.ci 13 (.ci 18 .nil))) ?_
        (refine gGo ?_; intros)
        (refine gPC (spP2) ?_; conv => whnf)
        (refine gGs ?_; intros)
        refine W.leG (mp := [(13, 13), (18, 18), (20, 20)]) (bo := []) (st' := ⟨[(12, .sl (tblRows (L)) false), (13, .bp 13 0), (14, .sl (rowRows ra) false), (15, .int .i64 e1), (16, .sl (rowRows ra) false), (17, .int .i64 e1), (18, .bp 18 0), (19, .int .i64 e2), (20, .bp 20 0), (21, .int .i64 e2)], [(13, [.rows 2 [Pth.row (⟨modK by' 6, p0.steps⟩)] none]), (18, [.rows 3 [tj.row] none]), (20, [.rows 3 [tj.row] none])], [13, 18, 20]⟩)
          (LeG.mq (.ci 13 (.ci 18 (.ci 20 .nil)))) ?_
        (refine gGo ?_; intros)
        (refine gPC (spS) ?_; conv => whnf)
        (refine gGo ?_; intros)
        (refine gPC (spT) ?_; conv => whnf)
        (refine gGo ?_; intros)
        (refine gPC (spA) ?_; conv => whnf)
        (refine gGr ?_; intros)
        exact ret0 rfl rfl rfl
      by_cases w5 : modK what 9 = 5
      · refine gE env hN (by kernel_rfl) ?_
        conv => whnf
        (refine gGs ?_; intros)
        refine gD rfl ?_
        refine gA ?_
        refine gE env hN (by kernel_rfl) ?_
        conv => whnf
        (refine gGs ?_; intros)
        refine gD rfl ?_
        refine gA ?_
        refine gE env hN (by kernel_rfl) ?_
        conv => whnf
        (refine gGs ?_; intros)
        refine gD rfl ?_
        refine gA ?_
        refine gE env hN (by kernel_rfl) ?_
        conv => whnf
        (refine gGs ?_; intros)
        refine gD rfl ?_
        refine gA ?_
        refine gE env hN (by kernel_rfl) ?_
        conv => whnf
        (refine gGs ?_; intros)
        refine gD rfl ?_
        refine gA ?_
        refine gE env hN (by kernel_rfl) ?_
        conv => whnf
        (refine gGs ?_; intros)
        refine gC rfl ?_
        refine gE env hN (by kernel_rfl) ?_
        conv => whnf
        (refine gGs ?_; intros)
        refine rowAt_of (by simpa using hx0) ?_
        conv => whnf
        (refine gGs ?_; intros)
        refine ⟨⟨rowsSz_cons rfl rowsSz_nil, rfl⟩, fitsN (n := (tblRows L).length + 1) (b := 48) (by omega) (by omega), .inl ⟨rfl, rfl, ?_⟩⟩
        conv => whnf
        (refine gGs ?_; intros)
        refine W.leG (mp := [(13, 13)]) (bo := [80, 81]) (st' := ⟨[(12, .sl (tblRows ((L ++ [x]))) false), (13, .bp 13 0)], [(13, [.rows 2 [Pth.row (p0)] none])], [13]⟩)
          (LeG.mk' rfl rfl rfl ⟨⟨_, Lent.whole rfl rfl (by rw [List.length_append]) rfl (.inl rfl), by rw [tblRows_add]; rfl⟩, ⟨_, .refl _, rfl⟩, trivial⟩ (.cons 13 (b1 := .rows 2 [Pth.row p0] none) rfl rfl (.rows _ _ _ (by repeat' (first | exact trivial | exact ⟨Lent.refl _, rfl⟩ | exact ⟨Lent.norm _, rfl⟩ | exact ⟨Lent.whole rfl rfl (by first | rfl | exact List.length_append.symm | exact hlenR | simp) rfl (by first | exact .inl rfl | exact .inr rfl), rfl⟩ | apply And.intro))) rfl .nil) rfl rfl (by rw [hK]; rfl)) ?_
        have spV1 := validP_spec ((L ++ [x])) (p0)
        have spV2 := valid31_spec ((L ++ [x])) (p0)
        have spR1 := rowsJ_spec ((L ++ [x])) (p0)
        have spR2 := rows31_spec ((L ++ [x])) (p0)
        have spP1 := pathJ_spec ((L ++ [x])) (p0)
        have spP2 := path31_spec ((L ++ [x])) (p0)
        generalize validE ((L ++ [x])) (p0) = ev at *
        generalize (rowsE ((L ++ [x])) (p0)).1 = ra at *
        generalize (rowsE ((L ++ [x])) (p0)).2 = e1 at *
        generalize (pathJ ((L ++ [x])) (p0)).1 = tj at *
        generalize (pathJ ((L ++ [x])) (p0)).2 = e2 at *
        have spS := sameRows_spec31 ra ra
        have spT := same3_spec tj tj
        rw [decide_eq_true rfl] at spS spT
        (refine gGo ?_; intros)
        (refine gPC (spV1) ?_; conv => whnf)
        (refine gGo ?_; intros)
        (refine gPC (spV2) ?_; conv => whnf)
        (refine gGs ?_; intros)
        refine gD rfl ?_
        refine gF ?_
        conv => whnf
        refine W.leG (mp := [(13, 13)]) (bo := []) (st' := ⟨[(12, .sl (tblRows ((L ++ [x]))) false), (13, .bp 13 0)], [(13, [.rows 2 [Pth.row (p0)] none])], [13]⟩)
          (LeG.mq (.ci 13 .nil)) ?_
        (refine gGo ?_; intros)
        (refine gPC (spR1) ?_; conv => whnf)
        (refine gGs ?_; intros)
        refine W.leG (mp := [(13, 13)]) (bo := []) (st' := ⟨[(12, .sl (tblRows ((L ++ [x]))) false), (13, .bp 13 0), (14, .sl (rowRows ra) false), (15, .int .i64 e1)], [(13, [.rows 2 [Pth.row (p0)] none])], [13]⟩)
          (LeG.mq (.ci 13 .nil)) ?_
        (refine gGo ?_; intros)
        (refine gPC (spR2) ?_; conv => whnf)
        (refine gGs ?_; intros)
        refine W.leG (mp := [(13, 13)]) (bo := []) (st' := ⟨[(12, .sl (tblRows ((L ++ [x]))) false), (13, .bp 13 0), (14, .sl (rowRows ra) false), (15, .int .i64 e1), (16, .sl (rowRows ra) false), (17, .int .i64 e1)], [(13, [.rows 2 [Pth.row (p0)] none])], [13]⟩)
          (LeG.mq (.ci 13 .nil)) ?_
        (refine gGo ?_; intros)
        (refine gPC (spP1) ?_; conv => whnf)
        (refine gGs ?_; intros)
        refine W.leG (mp := [(13, 13), (18, 18)]) (bo := []) (st' := ⟨[(12, .sl (tblRows ((L ++ [x]))) false), (13, .bp 13 0), (14, .sl (rowRows ra) false), (15, .int .i64 e1), (16, .sl (rowRows ra) false), (17, .int .i64 e1), (18, .bp 18 0), (19, .int .i64 e2)], [(13, [.rows 2 [Pth.row (p0)] none]), (18, [.rows 3 [tj.row] none])], [13, 18]⟩)
          (LeG.mq (.ci 13 (.ci 18 .nil))) ?_
        (refine gGo ?_; intros)
        (refine gPC (spP2) ?_; conv => whnf)
        (refine gGs ?_; intros)
        refine W.leG (mp := [(13, 13), (18, 18), (20, 20)]) (bo := []) (st' := ⟨[(12, .sl (tblRows ((L ++ [x]))) false), (13, .bp 13 0), (14, .sl (rowRows ra) false), (15, .int .i64 e1), (16, .sl (rowRows ra) false), (17, .int .i64 e1), (18, .bp 18 0), (19, .int .i64 e2), (20, .bp 20 0), (21, .int .i64 e2)], [(13, [.rows 2 [Pth.row (p0)] none]), (18, [.rows 3 [tj.row] none]), (20, [.rows 3 [tj.row] none])], [13, 18, 20]⟩)
          (LeG.mq (.ci 13 (.ci 18 (.ci 20 .nil)))) ?_
        (refine gGo ?_; intros)
        (refine gPC (spS) ?_; conv => whnf)
        (refine gGo ?_; intros)
        (refine gPC (spT) ?_; conv => whnf)
        (refine gGo ?_; intros)
        (refine gPC (spA) ?_; conv => whnf)
        (refine gGr ?_; intros)
        exact ret0 rfl rfl rfl
      by_cases hn : (stpRows p0.steps).length = 0 ∨ ¬ (modK what 9 = 2 ∨ modK what 9 = 3 ∨ modK what 9 = 4)
      · refine gE env hN (by kernel_rfl) ?_
        conv => whnf
        (refine gGs ?_; intros)
        refine gD rfl ?_
        refine gA ?_
        refine gE env hN (by kernel_rfl) ?_
        conv => whnf
        (refine gGs ?_; intros)
        have hcs : (modK what 9 = 2 ∧ ¬ (modK what 9 = 3) ∧ ¬ (modK what 9 = 4) ∧ (stpRows p0.steps).length = 0) ∨ (¬ (modK what 9 = 2) ∧ modK what 9 = 3 ∧ ¬ (modK what 9 = 4) ∧ (stpRows p0.steps).length = 0) ∨ (¬ (modK what 9 = 2) ∧ ¬ (modK what 9 = 3) ∧ modK what 9 = 4 ∧ (stpRows p0.steps).length = 0) ∨ (¬ (modK what 9 = 2) ∧ ¬ (modK what 9 = 3) ∧ ¬ (modK what 9 = 4)) := by omega
        rcases hcs with ⟨c1, c2, c3, c4⟩ | ⟨c1, c2, c3, c4⟩ | ⟨c1, c2, c3, c4⟩ | ⟨c1, c2, c3⟩
        all_goals
          refine gD rfl ?_
          refine gA ?_
          refine gE env hN (by kernel_rfl) ?_
          conv => whnf
          (refine gGs ?_; intros)
          refine gD rfl ?_
          refine gA ?_
          refine gE env hN (by kernel_rfl) ?_
          conv => whnf
          (refine gGs ?_; intros)
          refine gD rfl ?_
          refine gA ?_
          refine gE env hN (by kernel_rfl) ?_
          conv => whnf
          (refine gGs ?_; intros)
          refine gD rfl ?_
          refine gA ?_
          refine gE env hN (by kernel_rfl) ?_
          conv => whnf
          (refine gGs ?_; intros)
          refine gD rfl ?_
          refine gF ?_
          conv => whnf
          refine W.leG (mp := [(13, 13)]) (bo := [80, 81]) (st' := ⟨[(12, .sl (tblRows (L)) false), (13, .bp 13 0)], [(13, [.rows 2 [Pth.row (p0)] none])], [13]⟩)
            (LeG.mk' rfl rfl rfl ⟨⟨_, Lent.whole rfl rfl rfl rfl (.inl rfl), rfl⟩, ⟨_, .refl _, rfl⟩, trivial⟩ (.cons 13 (b1 := .rows 2 [Pth.row (p0)] none) rfl rfl (.rows _ _ _ (by repeat' (first | exact trivial | exact ⟨Lent.refl _, rfl⟩ | exact ⟨Lent.norm _, rfl⟩ | exact ⟨Lent.whole rfl rfl (by first | rfl | exact List.length_append.symm | exact hlenR | simp) rfl (by first | exact .inl rfl | exact .inr rfl), rfl⟩ | apply And.intro))) rfl .nil) rfl rfl (by rw [hK]; rfl)) ?_
          have spV1 := validP_spec (L) (p0)
          have spV2 := valid31_spec (L) (p0)
          have spR1 := rowsJ_spec (L) (p0)
          have spR2 := rows31_spec (L) (p0)
          have spP1 := pathJ_spec (L) (p0)
          have spP2 := path31_spec (L) (p0)
          generalize validE (L) (p0) = ev at *
          generalize (rowsE (L) (p0)).1 = ra at *
          generalize (rowsE (L) (p0)).2 = e1 at *
          generalize (pathJ (L) (p0)).1 = tj at *
          generalize (pathJ (L) (p0)).2 = e2 at *
          have spS := sameRows_spec31 ra ra
          have spT := same3_spec tj tj
          rw [decide_eq_true rfl] at spS spT
          (refine gGo ?_; intros)
          (refine gPC (spV1) ?_; conv => whnf)
          (refine gGo ?_; intros)
          (refine gPC (spV2) ?_; conv => whnf)
          (refine gGs ?_; intros)
          refine gD rfl ?_
          refine gF ?_
          conv => whnf
          refine W.leG (mp := [(13, 13)]) (bo := []) (st' := ⟨[(12, .sl (tblRows (L)) false), (13, .bp 13 0)], [(13, [.rows 2 [Pth.row (p0)] none])], [13]⟩)
            (LeG.mq (.ci 13 .nil)) ?_
          (refine gGo ?_; intros)
          (refine gPC (spR1) ?_; conv => whnf)
          (refine gGs ?_; intros)
          refine W.leG (mp := [(13, 13)]) (bo := []) (st' := ⟨[(12, .sl (tblRows (L)) false), (13, .bp 13 0), (14, .sl (rowRows ra) false), (15, .int .i64 e1)], [(13, [.rows 2 [Pth.row (p0)] none])], [13]⟩)
            (LeG.mq (.ci 13 .nil)) ?_
          (refine gGo ?_; intros)
          (refine gPC (spR2) ?_; conv => whnf)
          (refine gGs ?_; intros)
          refine W.leG (mp := [(13, 13)]) (bo := []) (st' := ⟨[(12, .sl (tblRows (L)) false), (13, .bp 13 0), (14, .sl (rowRows ra) false), (15, .int .i64 e1), (16, .sl (rowRows ra) false), (17, .int .i64 e1)], [(13, [.rows 2 [Pth.row (p0)] none])], [13]⟩)
            (LeG.mq (.ci 13 .nil)) ?_
          (refine gGo ?_; intros)
          (refine gPC (spP1) ?_; conv => whnf)
          (refine gGs ?_; intros)
          refine W.leG (mp := [(13, 13), (18, 18)]) (bo := []) (st' := ⟨[(12, .sl (tblRows (L)) false), (13, .bp 13 0), (14, .sl (rowRows ra) false), (15, .int .i64 e1), (16, .sl (rowRows ra) false), (17, .int .i64 e1), (18, .bp 18 0), (19, .int .i64 e2)], [(13, [.rows 2 [Pth.row (p0)] none]), (18, [.rows 3 [tj.row] none])], [13, 18]⟩)
            (LeG.mq (.ci 13 (.ci 18 .nil))) ?_
          (refine gGo ?_; intros)
          (refine gPC (spP2) ?_; conv => whnf)
          (refine gGs ?_; intros)
          refine W.leG (mp := [(13, 13), (18, 18), (20, 20)]) (bo := []) (st' := ⟨[(12, .sl (tblRows (L)) false), (13, .bp 13 0), (14, .sl (rowRows ra) false), (15, .int .i64 e1), (16, .sl (rowRows ra) false), (17, .int .i64 e1), (18, .bp 18 0), (19, .int .i64 e2), (20, .bp 20 0), (21, .int .i64 e2)], [(13, [.rows 2 [Pth.row (p0)] none]), (18, [.rows 3 [tj.row] none]), (20, [.rows 3 [tj.row] none])], [13, 18, 20]⟩)
            (LeG.mq (.ci 13 (.ci 18 (.ci 20 .nil)))) ?_
          (refine gGo ?_; intros)
          (refine gPC (spS) ?_; conv => whnf)
          (refine gGo ?_; intros)
          (refine gPC (spT) ?_; conv => whnf)
          (refine gGo ?_; intros)
          (refine gPC (spA) ?_; conv => whnf)
          (refine gGr ?_; intros)
          exact ret0 rfl rfl rfl
      by_cases w2 : modK what 9 = 2
      · refine gE env hN (by kernel_rfl) ?_
        conv => whnf
        (refine gGs ?_; intros)
        refine gD rfl ?_
        refine gA ?_
        refine gE env hN (by kernel_rfl) ?_
        conv => whnf
        (refine gGs ?_; intros)
        refine gD rfl ?_
        refine gA ?_
        refine gE env hN (by kernel_rfl) ?_
        conv => whnf
        (refine gGs ?_; intros)
        refine gC rfl ?_
        have spL1 := mod_spec at' ((stpRows p0.steps).length : Nat) (by omega)
        have spB5 := mod_spec by' 5 (by decide)
        have spB4 := mod_spec (by'.tdiv 5) 4 (by decide)
        have rB4 := modK_range (n := by'.tdiv 5) (m := 4)
        have rL := modK_range (n := at') (m := ((stpRows p0.steps).length : Nat))
        obtain ⟨i, hi⟩ := Int.eq_ofNat_of_zero_le rL.1
        rw [hi] at rL spL1
        have hil : i < p0.steps.length := by omega
        have hsg := stpRows_get hil
        refine gE env hN (by kernel_rfl) ?_
        conv => whnf
        (refine gGs ?_; intros)
        (refine gPC (spL1) ?_; conv => whnf)
        (refine gGs ?_; intros)
        (refine gPC (spB5) ?_; conv => whnf)
        (refine gGs ?_; intros)
        (refine gPC (spB4) ?_; conv => whnf)
        (refine gGs ?_; intros)
        refine rowAt_of (r := p0.steps[i].row) (by simpa using hsg) ?_
        conv => whnf
        (refine gGs ?_; intros)
        obtain ⟨q1, hq1⟩ : ∃ q1, q1 = p0.steps.set i (⟨modK by' 5, modK (by'.tdiv 5) 4 - 1, p0.steps[i].tt, p0.steps[i].tc⟩) := ⟨_, rfl⟩
        have hset : (stpRows p0.steps).set (0 + ((i : Nat) : Int).toNat) (Stp.row (⟨modK by' 5, modK (by'.tdiv 5) 4 - 1, p0.steps[i].tt, p0.steps[i].tc⟩)) = stpRows q1 := by
          rw [hq1, Nat.zero_add, Int.toNat_natCast]
          unfold stpRows
          rw [List.map_set]
        clear hq1
        refine W.leG (mp := [(13, 13)]) (bo := [80, 81]) (st' := ⟨[(12, .sl (tblRows (L)) false), (13, .bp 13 0)], [(13, [.rows 2 [Pth.row (⟨p0.start, q1⟩)] none])], [13]⟩)
          (LeG.mk' rfl rfl rfl ⟨⟨_, Lent.whole rfl rfl rfl rfl (.inl rfl), rfl⟩, ⟨_, .refl _, rfl⟩, trivial⟩ (.cons 13 (b1 := .rows 2 [Pth.row ⟨p0.start, q1⟩] none) rfl rfl (.rows _ _ _ (by repeat' (first | exact trivial | exact ⟨.refl _, rfl⟩ | exact ⟨(by rw [← hset]; exact Lent.whole rfl rfl (by rw [List.length_set]) rfl (.inl rfl)), rfl⟩ | apply And.intro))) rfl .nil) rfl rfl (by rw [hK]; rfl)) ?_
        have spV1 := validP_spec (L) ((Pth.mk p0.start q1))
        have spV2 := valid31_spec (L) ((Pth.mk p0.start q1))
        have spR1 := rowsJ_spec (L) ((Pth.mk p0.start q1))
        have spR2 := rows31_spec (L) ((Pth.mk p0.start q1))
        have spP1 := pathJ_spec (L) ((Pth.mk p0.start q1))
        have spP2 := path31_spec (L) ((Pth.mk p0.start q1))
        generalize validE (L) ((Pth.mk p0.start q1)) = ev at *
        generalize (rowsE (L) ((Pth.mk p0.start q1))).1 = ra at *
        generalize (rowsE (L) ((Pth.mk p0.start q1))).2 = e1 at *
        generalize (pathJ (L) ((Pth.mk p0.start q1))).1 = tj at *
        generalize (pathJ (L) ((Pth.mk p0.start q1))).2 = e2 at *
        have spS := sameRows_spec31 ra ra
        have spT := same3_spec tj tj
        rw [decide_eq_true rfl] at spS spT
        (refine gGo ?_; intros)
        (refine gPC (spV1) ?_; conv => whnf)
        (refine gGo ?_; intros)
        (refine gPC (spV2) ?_; conv => whnf)
        (refine gGs ?_; intros)
        refine gD rfl ?_
        refine gF ?_
        conv => whnf
        refine W.leG (mp := [(13, 13)]) (bo := []) (st' := ⟨[(12, .sl (tblRows (L)) false), (13, .bp 13 0)], [(13, [.rows 2 [Pth.row ((Pth.mk p0.start q1))] none])], [13]⟩)
          (LeG.mq (.ci 13 .nil)) ?_
        (refine gGo ?_; intros)
        (refine gPC (spR1) ?_; conv => whnf)
        (refine gGs ?_; intros)
        refine W.leG (mp := [(13, 13)]) (bo := []) (st' := ⟨[(12, .sl (tblRows (L)) false), (13, .bp 13 0), (14, .sl (rowRows ra) false), (15, .int .i64 e1)], [(13, [.rows 2 [Pth.row ((Pth.mk p0.start q1))] none])], [13]⟩)
          (LeG.mq (.ci 13 .nil)) ?_
        (refine gGo ?_; intros)
        (refine gPC (spR2) ?_; conv => whnf)
        (refine gGs ?_; intros)
        refine W.leG (mp := [(13, 13)]) (bo := []) (st' := ⟨[(12, .sl (tblRows (L)) false), (13, .bp 13 0), (14, .sl (rowRows ra) false), (15, .int .i64 e1), (16, .sl (rowRows ra) false), (17, .int .i64 e1)], [(13, [.rows 2 [Pth.row ((Pth.mk p0.start q1))] none])], [13]⟩)
          (LeG.mq (.ci 13 .nil)) ?_
        (refine gGo ?_; intros)
        (refine gPC (spP1) ?_; conv => whnf)
        (refine gGs ?_; intros)
        refine W.leG (mp := [(13, 13), (18, 18)]) (bo := []) (st' := ⟨[(12, .sl (tblRows (L)) false), (13, .bp 13 0), (14, .sl (rowRows ra) false), (15, .int .i64 e1), (16, .sl (rowRows ra) false), (17, .int .i64 e1), (18, .bp 18 0), (19, .int .i64 e2)], [(13, [.rows 2 [Pth.row ((Pth.mk p0.start q1))] none]), (18, [.rows 3 [tj.row] none])], [13, 18]⟩)
          (LeG.mq (.ci 13 (.ci 18 .nil))) ?_
        (refine gGo ?_; intros)
        (refine gPC (spP2) ?_; conv => whnf)
        (refine gGs ?_; intros)
        refine W.leG (mp := [(13, 13), (18, 18), (20, 20)]) (bo := []) (st' := ⟨[(12, .sl (tblRows (L)) false), (13, .bp 13 0), (14, .sl (rowRows ra) false), (15, .int .i64 e1), (16, .sl (rowRows ra) false), (17, .int .i64 e1), (18, .bp 18 0), (19, .int .i64 e2), (20, .bp 20 0), (21, .int .i64 e2)], [(13, [.rows 2 [Pth.row ((Pth.mk p0.start q1))] none]), (18, [.rows 3 [tj.row] none]), (20, [.rows 3 [tj.row] none])], [13, 18, 20]⟩)
          (LeG.mq (.ci 13 (.ci 18 (.ci 20 .nil)))) ?_
        (refine gGo ?_; intros)
        (refine gPC (spS) ?_; conv => whnf)
        (refine gGo ?_; intros)
        (refine gPC (spT) ?_; conv => whnf)
        (refine gGo ?_; intros)
        (refine gPC (spA) ?_; conv => whnf)
        (refine gGr ?_; intros)
        exact ret0 rfl rfl rfl
      by_cases w3 : modK what 9 = 3
      · have spL1 := mod_spec at' ((stpRows p0.steps).length : Nat) (by omega)
        have spB5 := mod_spec by' 5 (by decide)
        have spB4 := mod_spec (by'.tdiv 5) 4 (by decide)
        have rB4 := modK_range (n := by'.tdiv 5) (m := 4)
        have rL := modK_range (n := at') (m := ((stpRows p0.steps).length : Nat))
        obtain ⟨i, hi⟩ := Int.eq_ofNat_of_zero_le rL.1
        rw [hi] at rL spL1
        have hil : i < p0.steps.length := by omega
        have hsg := stpRows_get hil
        refine gE env hN (by kernel_rfl) ?_
        conv => whnf
        (refine gGs ?_; intros)
        refine gD rfl ?_
        refine gA ?_
        refine gE env hN (by kernel_rfl) ?_
        conv => whnf
        (refine gGs ?_; intros)
        refine gD rfl ?_
        refine gA ?_
        refine gE env hN (by kernel_rfl) ?_
        conv => whnf
        (refine gGs ?_; intros)
        refine gD rfl ?_
        refine gA ?_
        refine gE env hN (by kernel_rfl) ?_
        conv => whnf
        (refine gGs ?_; intros)
        refine gC rfl ?_
        refine gE env hN (by kernel_rfl) ?_
        conv => whnf
        (refine gGs ?_; intros)
        (refine gPC (spL1) ?_; conv => whnf)
        (refine gGs ?_; intros)
        (refine gPC (spB5) ?_; conv => whnf)
        (refine gGs ?_; intros)
        (refine gPC (spB4) ?_; conv => whnf)
        (refine gGs ?_; intros)
        refine rowAt_of (r := p0.steps[i].row) (by simpa using hsg) ?_
        conv => whnf
        (refine gGs ?_; intros)
        obtain ⟨q1, hq1⟩ : ∃ q1, q1 = p0.steps.set i (⟨p0.steps[i].ft, p0.steps[i].fc, modK by' 5, modK (by'.tdiv 5) 4 - 1⟩) := ⟨_, rfl⟩
        have hset : (stpRows p0.steps).set (0 + ((i : Nat) : Int).toNat) (Stp.row (⟨p0.steps[i].ft, p0.steps[i].fc, modK by' 5, modK (by'.tdiv 5) 4 - 1⟩)) = stpRows q1 := by
          rw [hq1, Nat.zero_add, Int.toNat_natCast]
          unfold stpRows
          rw [List.map_set]
        clear hq1
        refine W.leG (mp := [(13, 13)]) (bo := [80, 81]) (st' := ⟨[(12, .sl (tblRows (L)) false), (13, .bp 13 0)], [(13, [.rows 2 [Pth.row (⟨p0.start, q1⟩)] none])], [13]⟩)
          (LeG.mk' rfl rfl rfl ⟨⟨_, Lent.whole rfl rfl rfl rfl (.inl rfl), rfl⟩, ⟨_, .refl _, rfl⟩, trivial⟩ (.cons 13 (b1 := .rows 2 [Pth.row ⟨p0.start, q1⟩] none) rfl rfl (.rows _ _ _ (by repeat' (first | exact trivial | exact ⟨.refl _, rfl⟩ | exact ⟨(by rw [← hset]; exact Lent.whole rfl rfl (by rw [List.length_set]) rfl (.inl rfl)), rfl⟩ | apply And.intro))) rfl .nil) rfl rfl (by rw [hK]; rfl)) ?_
        have spV1 := validP_spec (L) ((Pth.mk p0.start q1))
        have spV2 := valid31_spec (L) ((Pth.mk p0.start q1))
        have spR1 := rowsJ_spec (L) ((Pth.mk p0.start q1))
        have spR2 := rows31_spec (L) ((Pth.mk p0.start q1))
        have spP1 := pathJ_spec (L) ((Pth.mk p0.start q1))
        have spP2 := path31_spec (L) ((Pth.mk p0.start q1))
        generalize validE (L) ((Pth.mk p0.start q1)) = ev at *
        generalize (rowsE (L) ((Pth.mk p0.start q1))).1 = ra at *
        generalize (rowsE (L) ((Pth.mk p0.start q1))).2 = e1 at *
        generalize (pathJ (L) ((Pth.mk p0.start q1))).1 = tj at *
        generalize (pathJ (L) ((Pth.mk p0.start q1))).2 = e2 at *
        have spS := sameRows_spec31 ra ra
        have spT := same3_spec tj tj
        rw [decide_eq_true rfl] at spS spT
        (refine gGo ?_; intros)
        (refine gPC (spV1) ?_; conv => whnf)
        (refine gGo ?_; intros)
        (refine gPC (spV2) ?_; conv => whnf)
        (refine gGs ?_; intros)
        refine gD rfl ?_
        refine gF ?_
        conv => whnf
        refine W.leG (mp := [(13, 13)]) (bo := []) (st' := ⟨[(12, .sl (tblRows (L)) false), (13, .bp 13 0)], [(13, [.rows 2 [Pth.row ((Pth.mk p0.start q1))] none])], [13]⟩)
          (LeG.mq (.ci 13 .nil)) ?_
        (refine gGo ?_; intros)
        (refine gPC (spR1) ?_; conv => whnf)
        (refine gGs ?_; intros)
        refine W.leG (mp := [(13, 13)]) (bo := []) (st' := ⟨[(12, .sl (tblRows (L)) false), (13, .bp 13 0), (14, .sl (rowRows ra) false), (15, .int .i64 e1)], [(13, [.rows 2 [Pth.row ((Pth.mk p0.start q1))] none])], [13]⟩)
          (LeG.mq (.ci 13 .nil)) ?_
        (refine gGo ?_; intros)
        (refine gPC (spR2) ?_; conv => whnf)
        (refine gGs ?_; intros)
        refine W.leG (mp := [(13, 13)]) (bo := []) (st' := ⟨[(12, .sl (tblRows (L)) false), (13, .bp 13 0), (14, .sl (rowRows ra) false), (15, .int .i64 e1), (16, .sl (rowRows ra) false), (17, .int .i64 e1)], [(13, [.rows 2 [Pth.row ((Pth.mk p0.start q1))] none])], [13]⟩)
          (LeG.mq (.ci 13 .nil)) ?_
        (refine gGo ?_; intros)
        (refine gPC (spP1) ?_; conv => whnf)
        (refine gGs ?_; intros)
        refine W.leG (mp := [(13, 13), (18, 18)]) (bo := []) (st' := ⟨[(12, .sl (tblRows (L)) false), (13, .bp 13 0), (14, .sl (rowRows ra) false), (15, .int .i64 e1), (16, .sl (rowRows ra) false), (17, .int .i64 e1), (18, .bp 18 0), (19, .int .i64 e2)], [(13, [.rows 2 [Pth.row ((Pth.mk p0.start q1))] none]), (18, [.rows 3 [tj.row] none])], [13, 18]⟩)
          (LeG.mq (.ci 13 (.ci 18 .nil))) ?_
        (refine gGo ?_; intros)
        (refine gPC (spP2) ?_; conv => whnf)
        (refine gGs ?_; intros)
        refine W.leG (mp := [(13, 13), (18, 18), (20, 20)]) (bo := []) (st' := ⟨[(12, .sl (tblRows (L)) false), (13, .bp 13 0), (14, .sl (rowRows ra) false), (15, .int .i64 e1), (16, .sl (rowRows ra) false), (17, .int .i64 e1), (18, .bp 18 0), (19, .int .i64 e2), (20, .bp 20 0), (21, .int .i64 e2)], [(13, [.rows 2 [Pth.row ((Pth.mk p0.start q1))] none]), (18, [.rows 3 [tj.row] none]), (20, [.rows 3 [tj.row] none])], [13, 18, 20]⟩)
          (LeG.mq (.ci 13 (.ci 18 (.ci 20 .nil)))) ?_
        (refine gGo ?_; intros)
        (refine gPC (spS) ?_; conv => whnf)
        (refine gGo ?_; intros)
        (refine gPC (spT) ?_; conv => whnf)
        (refine gGo ?_; intros)
        (refine gPC (spA) ?_; conv => whnf)
        (refine gGr ?_; intros)
        exact ret0 rfl rfl rfl
      have w4 : modK what 9 = 4 := by omega
      have spB2 := mod_spec by' 2 (by decide)
      have rB2 := modK_range (n := by') (m := 2)
      refine gE env hN (by kernel_rfl) ?_
      conv => whnf
      (refine gGs ?_; intros)
      refine gD rfl ?_
      refine gA ?_
      refine gE env hN (by kernel_rfl) ?_
      conv => whnf
      (refine gGs ?_; intros)
      refine gD rfl ?_
      refine gA ?_
      refine gE env hN (by kernel_rfl) ?_
      conv => whnf
      (refine gGs ?_; intros)
      refine gD rfl ?_
      refine gA ?_
      refine gE env hN (by kernel_rfl) ?_
      conv => whnf
      (refine gGs ?_; intros)
      refine gD rfl ?_
      refine gA ?_
      refine gE env hN (by kernel_rfl) ?_
      conv => whnf
      (refine gGs ?_; intros)
      refine gC rfl ?_
      refine gB ?_
      refine W.leG (mp := [(13, 13), (80, 80), (81, 81)]) (bo := []) (st' := ⟨[(4, .int .i64 by'), (12, .osl 80 0 0 (tblRows L).length (tblRows L).length), (13, .bp 13 0)], [(13, [.rows 2 [[.int .i64 p0.start, .osl 81 0 0 (stpRows (p0.steps)).length (stpRows (p0.steps)).length]] none]), (80, [.rows 3 (tblRows L) (some [])]), (81, [.rows 4 (stpRows (p0.steps)) (some [])])], [13, 80, 81]⟩)
        (LeG.mq (.ci 13 (.ci 80 (.ci 81 .nil)))) ?_
      refine W.loopG (fun m st => ∃ S : List Stp, 0 < S.length ∧ S.length ≤ 5 ∧ m = 5 - S.length ∧ st = ⟨[(4, .int .i64 by'), (12, .osl 80 0 0 (tblRows L).length (tblRows L).length), (13, .bp 13 0)], [(13, [.rows 2 [[.int .i64 p0.start, .osl 81 0 0 (stpRows (S)).length (stpRows (S)).length]] none]), (80, [.rows 3 (tblRows L) (some [])]), (81, [.rows 4 (stpRows (S)) (some [])])], [13, 80, 81]⟩)
        (5 - p0.steps.length) _ ⟨p0.steps, by omega, by omega, by omega, rfl⟩ ⟨[(13, 13), (80, 80), (81, 81)], [], [], .mq (.ci 13 (.ci 80 (.ci 81 .nil)))⟩ ?_
      rintro m st ⟨S, hS0, hS5, rfl, rfl⟩
      have hSl := stpRows_len S
      have hg0 := stpRows_get hS0
      generalize hs0 : S[0] = s0 at *
      (refine gGo ?_; intros)
      (refine gPC (spB2) ?_; conv => whnf)
      (refine gGo ?_; intros)
      refine boolRes_split (fun hb => ?_) (fun hb => ?_) <;> conv => whnf
      · (refine gGo ?_; intros)
        refine rowAt_of (r := s0.row) (by simpa using hg0) ?_
        conv => whnf
        (refine gGo ?_; intros)
        refine ⟨⟨rowsSz_cons rfl rowsSz_nil, rfl⟩, fitsN (n := (stpRows S).length + 1) (b := 32) (by omega) (by omega), .inl ⟨rfl, rfl, ?_⟩⟩
        conv => whnf
        (refine gGo ?_; intros)
        refine ⟨_, _, ?_, ⟨S ++ [s0], by simp, by rw [List.length_append]; simp only [List.length_singleton]; omega, rfl, rfl⟩, [(13, 13), (80, 80), (81, 81)], [], [], LeG.mq (.cons 13 rfl rfl (.refl _) (by unfold stpRows; rw [List.map_append, List.length_append]; rfl) (.ci 80 (.cons 81 rfl rfl (.refl _) (by unfold stpRows; rw [List.map_append]; rfl) .nil)))⟩
        rw [List.length_append]; simp only [List.length_singleton]; omega
      · (refine gGs ?_; intros)
        refine gD rfl ?_
        refine gG ?_
        conv => whnf
        refine W.leG (mp := [(13, 13)]) (bo := [80, 81]) (st' := ⟨[(12, .sl (tblRows (L)) false), (13, .bp 13 0)], [(13, [.rows 2 [Pth.row (⟨p0.start, S⟩)] none])], [13]⟩)
          (LeG.mk' rfl rfl rfl ⟨⟨_, Lent.whole rfl rfl rfl rfl (.inl rfl), rfl⟩, ⟨_, .refl _, rfl⟩, trivial⟩ (.cons 13 (b1 := .rows 2 [Pth.row ⟨p0.start, S⟩] none) rfl rfl (.rows _ _ _ (by repeat' (first | exact trivial | exact ⟨Lent.refl _, rfl⟩ | exact ⟨Lent.norm _, rfl⟩ | exact ⟨Lent.whole rfl rfl (by first | rfl | exact List.length_append.symm | exact hlenR | simp) rfl (by first | exact .inl rfl | exact .inr rfl), rfl⟩ | apply And.intro))) rfl .nil) rfl rfl (by rw [hK]; rfl)) ?_
        have spV1 := validP_spec (L) ((Pth.mk p0.start S))
        have spV2 := valid31_spec (L) ((Pth.mk p0.start S))
        have spR1 := rowsJ_spec (L) ((Pth.mk p0.start S))
        have spR2 := rows31_spec (L) ((Pth.mk p0.start S))
        have spP1 := pathJ_spec (L) ((Pth.mk p0.start S))
        have spP2 := path31_spec (L) ((Pth.mk p0.start S))
        generalize validE (L) ((Pth.mk p0.start S)) = ev at *
        generalize (rowsE (L) ((Pth.mk p0.start S))).1 = ra at *
        generalize (rowsE (L) ((Pth.mk p0.start S))).2 = e1 at *
        generalize (pathJ (L) ((Pth.mk p0.start S))).1 = tj at *
        generalize (pathJ (L) ((Pth.mk p0.start S))).2 = e2 at *
        have spS := sameRows_spec31 ra ra
        have spT := same3_spec tj tj
        rw [decide_eq_true rfl] at spS spT
        (refine gGo ?_; intros)
        (refine gPC (spV1) ?_; conv => whnf)
        (refine gGo ?_; intros)
        (refine gPC (spV2) ?_; conv => whnf)
        (refine gGs ?_; intros)
        refine gD rfl ?_
        refine gF ?_
        conv => whnf
        refine W.leG (mp := [(13, 13)]) (bo := []) (st' := ⟨[(12, .sl (tblRows (L)) false), (13, .bp 13 0)], [(13, [.rows 2 [Pth.row ((Pth.mk p0.start S))] none])], [13]⟩)
          (LeG.mq (.ci 13 .nil)) ?_
        (refine gGo ?_; intros)
        (refine gPC (spR1) ?_; conv => whnf)
        (refine gGs ?_; intros)
        refine W.leG (mp := [(13, 13)]) (bo := []) (st' := ⟨[(12, .sl (tblRows (L)) false), (13, .bp 13 0), (14, .sl (rowRows ra) false), (15, .int .i64 e1)], [(13, [.rows 2 [Pth.row ((Pth.mk p0.start S))] none])], [13]⟩)
          (LeG.mq (.ci 13 .nil)) ?_
        (refine gGo ?_; intros)
        (refine gPC (spR2) ?_; conv => whnf)
        (refine gGs ?_; intros)
        refine W.leG (mp := [(13, 13)]) (bo := []) (st' := ⟨[(12, .sl (tblRows (L)) false), (13, .bp 13 0), (14, .sl (rowRows ra) false), (15, .int .i64 e1), (16, .sl (rowRows ra) false), (17, .int .i64 e1)], [(13, [.rows 2 [Pth.row ((Pth.mk p0.start S))] none])], [13]⟩)
          (LeG.mq (.ci 13 .nil)) ?_
        (refine gGo ?_; intros)
        (refine gPC (spP1) ?_; conv => whnf)
        (refine gGs ?_; intros)
        refine W.leG (mp := [(13, 13), (18, 18)]) (bo := []) (st' := ⟨[(12, .sl (tblRows (L)) false), (13, .bp 13 0), (14, .sl (rowRows ra) false), (15, .int .i64 e1), (16, .sl (rowRows ra) false), (17, .int .i64 e1), (18, .bp 18 0), (19, .int .i64 e2)], [(13, [.rows 2 [Pth.row ((Pth.mk p0.start S))] none]), (18, [.rows 3 [tj.row] none])], [13, 18]⟩)
          (LeG.mq (.ci 13 (.ci 18 .nil))) ?_
        (refine gGo ?_; intros)
        (refine gPC (spP2) ?_; conv => whnf)
        (refine gGs ?_; intros)
        refine W.leG (mp := [(13, 13), (18, 18), (20, 20)]) (bo := []) (st' := ⟨[(12, .sl (tblRows (L)) false), (13, .bp 13 0), (14, .sl (rowRows ra) false), (15, .int .i64 e1), (16, .sl (rowRows ra) false), (17, .int .i64 e1), (18, .bp 18 0), (19, .int .i64 e2), (20, .bp 20 0), (21, .int .i64 e2)], [(13, [.rows 2 [Pth.row ((Pth.mk p0.start S))] none]), (18, [.rows 3 [tj.row] none]), (20, [.rows 3 [tj.row] none])], [13, 18, 20]⟩)
          (LeG.mq (.ci 13 (.ci 18 (.ci 20 .nil)))) ?_
        (refine gGo ?_; intros)
        (refine gPC (spS) ?_; conv => whnf)
        (refine gGo ?_; intros)
        (refine gPC (spT) ?_; conv => whnf)
        (refine gGo ?_; intros)
        (refine gPC (spA) ?_; conv => whnf)
        (refine gGr ?_; intros)
        exact ret0 rfl rfl rfl
    · refine gEn env Tryz.func4 fun Γ hN hK hML => ?_
      (refine gGo ?_; intros)
      (refine gPC (spL) ?_; conv => whnf)
      (refine gGo ?_; intros)
      (refine gPC (spA) ?_; conv => whnf)
      (refine gGr ?_; intros)
      exact ret0 rfl rfl rfl
  · rw [decide_eq_false hll] at spL
    refine gEn env Tryz.func4 fun Γ hN hK hML => ?_
    (refine gGo ?_; intros)
    (refine gPC (spL) ?_; conv => whnf)
    (refine gGo ?_; intros)
    (refine gPC (spA) ?_; conv => whnf)
    (refine gGr ?_; intros)
    exact ret0 rfl rfl rfl
theorem paths_calls {w : World} {v0 v1 v2 v3 v4 : Value} {u0 u1 u2 u3 u4 : V} (r0 : VRel w (fun _ => False) (fun _ _ => none) u0 v0) (r1 : VRel w (fun _ => False) (fun _ _ => none) u1 v1) (r2 : VRel w (fun _ => False) (fun _ _ => none) u2 v2) (r3 : VRel w (fun _ => False) (fun _ _ => none) u3 v3) (r4 : VRel w (fun _ => False) (fun _ _ => none) u4 v4)
    (a0 : argShape T 2 22 u0) (a1 : argShape T 5 25 u1) (a2 : argShape T 1 3 u2) (a3 : argShape T 1 3 u3) (a4 : argShape T 1 3 u4) (hg : GRel w (fun _ => False)) :
    Calls Tryz.prog 4 #[v0, v1, v2, v3, v4] w fun e w' => e = .returned (.bool true) ∧ Go.RowKit.Below w.heap.size w w' := by
  obtain ⟨l, rfl⟩ := arg_ints a0
  obtain ⟨p, rfl⟩ := arg_path a1
  obtain ⟨n, rfl, _⟩ := arg_int a2
  obtain ⟨n3, rfl, _⟩ := arg_int a3
  obtain ⟨n4, rfl, hb4⟩ := arg_int a4
  refine Spec.law (paths_law l p n n3 n4 hb4) (cargs := [v0, v1, v2, v3, v4]) rfl (fun j u c hj hc => ?_) rfl hg
  match j with
  | 0 => cases hj; cases hc; exact r0
  | 1 => cases hj; cases hc; exact r1
  | 2 => cases hj; cases hc; exact r2
  | 3 => cases hj; cases hc; exact r3
  | 4 => cases hj; cases hc; exact r4
  | j + 5 => cases hj
end Go.Sx.Sp
