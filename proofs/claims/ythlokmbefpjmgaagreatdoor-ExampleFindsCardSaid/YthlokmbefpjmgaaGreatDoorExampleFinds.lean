/- Which views contain an example, and which paths are looked at, or the error. No condition. -/
import Derived.Test.YthlokmbefpjmgaaGreatDoorExTen
import Derived.Test.YthlokmbefpjmgaaGreatDoorRows
import Derived.WalkKit
import Derived.ProofKit
import Derived.OpenShut
import Derived.ChangeOld
import Derived.Below
import Derived.PinnedBridge
import Derived.Lay
import Derived.LaidOnce
import Derived.Lib.LaidU8T
import Derived.ShutString
import Derived.Carry
namespace Go.Proofs.YthlokmbefpjmgaaGreatDoor.exampleFinds
open Go.ChangeShapes Go.WideShapes Go.ChangeAt Go.RowKit Go.Lib Go.Shelf
set_option linter.unusedVariables false

theorem own : ownKnob Tryz.prog.godebug = none := by kernel_rfl
theorem laidOut : laidOutB Tryz.prog = true := by kernel_rfl

theorem extra : U8Extra Tryz.prog Tryz.laysValid_ren := ⟨by kernel_rfl, by kernel_rfl, by kernel_rfl, by kernel_rfl, by kernel_rfl, by kernel_rfl, by kernel_rfl⟩
theorem accept_eq : (Rows.laid_unicode_utf8_acceptRanges : DataW Unit) = acceptData := by kernel_rfl

theorem lt_of_reads {P : Program} {W : World} {name : String} {d : DataW Unit} {g : Nat} (hg : P.globalNamed name = some g) (h : VarReads P W name d) : g < W.heap.size := by
  obtain ⟨g', t', cs, fuel, p, hg', ht', hvar, hd⟩ := h
  obtain rfl := Option.some.inj (hg.symm.trans hg')
  simp only [World.var?, hg, Option.bind_some] at hvar
  by_cases hlt : g < W.heap.size
  · exact hlt
  · rw [Array.getElem?_eq_none (by omega)] at hvar
    cases hvar

theorem vars {W : World} (h : laidMet Tryz.prog Rows.exampleFindsRow.laid W) : Sx.GRel W (fun _ => False) := by
  have r1 := laidMet.reads h (n := "unicode/utf8.first") (d := Rows.laid_unicode_utf8_first) (by simp [Rows.exampleFindsRow])
  have r2 := laidMet.reads h (n := "unicode/utf8.acceptRanges") (d := Rows.laid_unicode_utf8_acceptRanges) (by simp [Rows.exampleFindsRow])
  rw [accept_eq] at r2
  have r1' : VarReads Tryz.prog W "unicode/utf8.first" firstData := Pinned.utf8First_eq ▸ r1
  have hu := utf8Tabs_of_readsT (U8Types.of196 Tryz.laysValid) extra r1' r2
  refine ⟨hu, fun b hb => ⟨?_, fun h => h⟩⟩
  have hb' : b = 0 ∨ b = 1 := by
    have : b ∈ [0, 1] := hb
    simpa using this
  rcases hb' with rfl | rfl
  · exact lt_of_reads (by kernel_rfl) r1'
  · exact lt_of_reads (by kernel_rfl) r2

set_option maxRecDepth 100000 in
theorem lifted (os : Os) (started : os.Started) (H : Type) (enc : TypeId × Value → H) :
    ReturnsInHanded {} Tryz.checked os 3 .any (fun w args => (Rows.exampleFindsSpec.pre enc Tryz.prog Tryz.f3 Rows.exampleFindsRow.domain false w args ∧ laidMetH Tryz.prog Rows.exampleFindsRow.laid w) ∧ sizedMet enc Tryz.prog Tryz.f3 (OpenSpec.ofChange Rows.exampleFindsSpec) false w args)
      (Rows.exampleFindsSpec.post enc Tryz.prog Tryz.f3 false true false false) := by
  refine returnsInHanded_of_change_and (C := Tryz.checked) (X := fun w _ => laidMetH Tryz.prog Rows.exampleFindsRow.laid w) (fun _ _ _ hh h => h.of_heap hh) own started (by kernel_rfl) Tryz.func3
    (ChangeSpec.witness_shaped (enc := enc) (C := Tryz.checked) (os := os) (X := fun w _ => laidMetH Tryz.prog Rows.exampleFindsRow.laid w) false (World.laidAll Tryz.prog os Rows.exampleFindsRow.laid) #[.slice none 0 0, .agg #[.int .i64 0, .string ⟨#[]⟩, .slice none 0 0], .int .i64 0, .int .i64 0, .int .i64 0] 8 (World.laidAll_os _ _ _)
      (World.shaped_of_ZipB (by kernel_rfl) (by kernel_rfl)) (by kernel_rfl) (by kernel_rfl) (by kernel_rfl)
      (by rw [MakeChecks.laidMetH_plain _ _ _ (by kernel_rfl)]; exact laidMet_laidAll _ (by kernel_rfl) (by kernel_rfl))) ?_
  intro W base args ds gs before hval0 hW hcnd _ hL _
  have hval : ∀ (j : Nat) t v, Tryz.f3.params[j]? = some t → args[j]? = some v → Value.okWide Tryz.prog W .any base t v := hval0
  have hW' := hW
  obtain ⟨p, q, hA0, hV, rfl, hfz, hnd⟩ := hW
  have hA : DataW.TrodAll enc Tryz.prog W 0 (fun _ => true) true Tryz.f3.params.toList args.toList ds p := hA0
  rw [Tryz.params3] at hA hval
  obtain ⟨v0, vs0, d0, ds0, p0, q0, hargs, rfl, rfl, h0, r0⟩ := trodAll_cons hA
  obtain ⟨v1, vs1, d1, ds1, p1, q1, rfl, rfl, rfl, h1, r1⟩ := trodAll_cons r0
  obtain ⟨v2, vs2, d2, ds2, p2, q2, rfl, rfl, rfl, h2, r2⟩ := trodAll_cons r1
  obtain ⟨v3, vs3, d3, ds3, p3, q3, rfl, rfl, rfl, h3, r3⟩ := trodAll_cons r2
  obtain ⟨v4, vs4, d4, ds4, p4, q4, rfl, rfl, rfl, h4, r4⟩ := trodAll_cons r3
  obtain ⟨rfl, rfl, rfl⟩ := trodAll_nil r4
  obtain rfl : args = #[v0, v1, v2, v3, v4] := by cases args; simp_all
  obtain ⟨rfl, rfl⟩ := trodVars_none hV
  obtain ⟨u0, e0, _, a0⟩ := Sx.arg_rel Sx.Sp.env.table (n := 2) (t := 22) (by kernel_rfl) (hval 0 22 v0 rfl rfl) h0
  have lt0 : ∀ x ∈ p0, x.block < W.heap.size := by obtain ⟨m, hm⟩ := h0; exact DataW.trod_lt m _ _ _ hm
  obtain ⟨u1, e1, _, a1⟩ := Sx.arg_rel Sx.Sp.env.table (n := 6) (t := 25) (by kernel_rfl) (hval 1 25 v1 rfl rfl) h1
  have lt1 : ∀ x ∈ p1, x.block < W.heap.size := by obtain ⟨m, hm⟩ := h1; exact DataW.trod_lt m _ _ _ hm
  obtain ⟨u2, e2, _, a2⟩ := Sx.arg_rel Sx.Sp.env.table (n := 1) (t := 3) (by kernel_rfl) (hval 2 3 v2 rfl rfl) h2
  have lt2 : ∀ x ∈ p2, x.block < W.heap.size := by obtain ⟨m, hm⟩ := h2; exact DataW.trod_lt m _ _ _ hm
  obtain ⟨u3, e3, _, a3⟩ := Sx.arg_rel Sx.Sp.env.table (n := 1) (t := 3) (by kernel_rfl) (hval 3 3 v3 rfl rfl) h3
  have lt3 : ∀ x ∈ p3, x.block < W.heap.size := by obtain ⟨m, hm⟩ := h3; exact DataW.trod_lt m _ _ _ hm
  obtain ⟨u4, e4, _, a4⟩ := Sx.arg_rel Sx.Sp.env.table (n := 1) (t := 3) (by kernel_rfl) (hval 4 3 v4 rfl rfl) h4
  have lt4 : ∀ x ∈ p4, x.block < W.heap.size := by obtain ⟨m, hm⟩ := h4; exact DataW.trod_lt m _ _ _ hm
  clear hA0 hval0
  rw [MakeChecks.laidMetH_plain _ _ _ (by kernel_rfl)] at hL
  refine (Sx.Sp.exfinds_calls e0 e1 e2 e3 e4 a0 a1 a2 a3 a4 (vars hL)).mono fun e W' ⟨he, bel⟩ => ?_
  subst he
  exact ⟨_, rfl, _, _, _, [], _, [], hW', trodAll_mk1 (shut_bool Tryz.underlying4 _), (trodAll_cons_mk (Below.trod laidOut (by kernel_rfl) (of_decide_eq_true (by kernel_rfl)) h0 bel lt0) (trodAll_cons_mk (Below.trod laidOut (by kernel_rfl) (of_decide_eq_true (by kernel_rfl)) h1 bel lt1) (trodAll_cons_mk (Below.trod laidOut (by kernel_rfl) (of_decide_eq_true (by kernel_rfl)) h2 bel lt2) (trodAll_cons_mk (Below.trod laidOut (by kernel_rfl) (of_decide_eq_true (by kernel_rfl)) h3 bel lt3) (trodAll_cons_mk (Below.trod laidOut (by kernel_rfl) (of_decide_eq_true (by kernel_rfl)) h4 bel lt4) trodAll_mk0))))), rfl, bel.frame _, fun h => by cases h⟩

theorem over : Rows.exampleFindsRow.holds Tryz.pinned (OpenSpec.ofChange Rows.exampleFindsSpec) :=
  OpenClaim.holds_of_wide 3 Tryz.f3 rfl rfl rfl rfl rfl rfl rfl ⟨rfl, rfl, rfl, rfl, rfl⟩ rfl rfl rfl rfl rfl (by kernel_rfl) Tryz.func3 (by kernel_rfl)
    (of_decide_eq_true (by kernel_rfl)) (by unfold Func.isWrapper; first | (rw [if_pos (by decide +kernel)]; kernel_rfl) | (rw [if_neg (by decide +kernel)]; exact ⟨rfl, rfl⟩))
    (fun os started H enc _ => lifted os started H enc)

theorem proved : Rows.ExampleFindsSaid := over
end Go.Proofs.YthlokmbefpjmgaaGreatDoor.exampleFinds
