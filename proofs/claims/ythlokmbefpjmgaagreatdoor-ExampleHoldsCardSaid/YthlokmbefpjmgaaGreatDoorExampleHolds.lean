/- Each view that is found contains the example, the answers are in order, and a further row of the example never adds answers. No condition. -/
import Derived.Test.YthlokmbefpjmgaaGreatDoorExTen
import Derived.Test.YthlokmbefpjmgaaGreatDoorRows
import Derived.WalkKit
import Derived.ProofKit
import Derived.OpenShut
import Derived.ChangeOld
import Derived.Below
import Derived.PinnedBridge
import Derived.Lay
import Derived.LaidOnce
import Derived.Lib.LaidU8T
import Derived.ShutString
import Derived.Carry
namespace Go.Proofs.YthlokmbefpjmgaaGreatDoor.exampleHolds
open Go.ChangeShapes Go.WideShapes Go.ChangeAt Go.RowKit Go.Lib Go.Shelf
set_option linter.unusedVariables false

theorem own : ownKnob Tryz.prog.godebug = none := by kernel_rfl
theorem laidOut : laidOutB Tryz.prog = true := by kernel_rfl

theorem extra : U8Extra Tryz.prog Tryz.laysValid_ren := ⟨by kernel_rfl, by kernel_rfl, by kernel_rfl, by kernel_rfl, by kernel_rfl, by kernel_rfl, by kernel_rfl⟩
theorem accept_eq : (Rows.laid_unicode_utf8_acceptRanges : DataW Unit) = acceptData := by kernel_rfl

theorem lt_of_reads {P : Program} {W : World} {name : String} {d : DataW Unit} {g : Nat} (hg : P.globalNamed name = some g) (h : VarReads P W name d) : g < W.heap.size := by
  obtain ⟨g', t', cs, fuel, p, hg', ht', hvar, hd⟩ := h
  obtain rfl := Option.some.inj (hg.symm.trans hg')
  simp only [World.var?, hg, Option.bind_some] at hvar
  by_cases hlt : g < W.heap.size
  · exact hlt
  · rw [Array.getElem?_eq_none (by omega)] at hvar
    cases hvar

theorem vars {W : World} (h : laidMet Tryz.prog Rows.exampleHoldsRow.laid W) : Sx.GRel W (fun _ => False) := by
  have r1 := laidMet.reads h (n := "unicode/utf8.first") (d := Rows.laid_unicode_utf8_first) (by simp [Rows.exampleHoldsRow])
  have r2 := laidMet.reads h (n := "unicode/utf8.acceptRanges") (d := Rows.laid_unicode_utf8_acceptRanges) (by simp [Rows.exampleHoldsRow])
  rw [accept_eq] at r2
  have r1' : VarReads Tryz.prog W "unicode/utf8.first" firstData := Pinned.utf8First_eq ▸ r1
  have hu := utf8Tabs_of_readsT (U8Types.of196 Tryz.laysValid) extra r1' r2
  refine ⟨hu, fun b hb => ⟨?_, fun h => h⟩⟩
  have hb' : b = 0 ∨ b = 1 := by
    have : b ∈ [0, 1] := hb
    simpa using this
  rcases hb' with rfl | rfl
  · exact lt_of_reads (by kernel_rfl) r1'
  · exact lt_of_reads (by kernel_rfl) r2

set_option maxRecDepth 100000 in
theorem lifted (os : Os) (started : os.Started) (H : Type) (enc : TypeId × Value → H) :
    ReturnsInHanded {} Tryz.checked os 4 .any (fun w args => (Rows.exampleHoldsSpec.pre enc Tryz.prog Tryz.f4 Rows.exampleHoldsRow.domain false w args ∧ laidMetH Tryz.prog Rows.exampleHoldsRow.laid w) ∧ sizedMet enc Tryz.prog Tryz.f4 (OpenSpec.ofChange Rows.exampleHoldsSpec) false w args)
      (Rows.exampleHoldsSpec.post enc Tryz.prog Tryz.f4 false true false false) := by
  refine returnsInHanded_of_change_and (C := Tryz.checked) (X := fun w _ => laidMetH Tryz.prog Rows.exampleHoldsRow.laid w) (fun _ _ _ hh h => h.of_heap hh) own started (by kernel_rfl) Tryz.func4
    (ChangeSpec.witness_shaped (enc := enc) (C := Tryz.checked) (os := os) (X := fun w _ => laidMetH Tryz.prog Rows.exampleHoldsRow.laid w) false (World.laidAll Tryz.prog os Rows.exampleHoldsRow.laid) #[.slice none 0 0] 8 (World.laidAll_os _ _ _)
      (World.shaped_of_ZipB (by kernel_rfl) (by kernel_rfl)) (by kernel_rfl) (by kernel_rfl) (by kernel_rfl)
      (by rw [MakeChecks.laidMetH_plain _ _ _ (by kernel_rfl)]; exact laidMet_laidAll _ (by kernel_rfl) (by kernel_rfl))) ?_
  intro W base args ds gs before hval0 hW hcnd _ hL _
  have hval : ∀ (j : Nat) t v, Tryz.f4.params[j]? = some t → args[j]? = some v → Value.okWide Tryz.prog W .any base t v := hval0
  have hW' := hW
  obtain ⟨p, q, hA0, hV, rfl, hfz, hnd⟩ := hW
  have hA : DataW.TrodAll enc Tryz.prog W 0 (fun _ => true) true Tryz.f4.params.toList args.toList ds p := hA0
  rw [Tryz.params4] at hA hval
  obtain ⟨v0, vs0, d0, ds0, p0, q0, hargs, rfl, rfl, h0, r0⟩ := trodAll_cons hA
  obtain ⟨rfl, rfl, rfl⟩ := trodAll_nil r0
  obtain rfl : args = #[v0] := by cases args; simp_all
  obtain ⟨rfl, rfl⟩ := trodVars_none hV
  obtain ⟨u0, e0, _, a0⟩ := Sx.arg_rel Sx.Sp.env.table (n := 2) (t := 22) (by kernel_rfl) (hval 0 22 v0 rfl rfl) h0
  have lt0 : ∀ x ∈ p0, x.block < W.heap.size := by obtain ⟨m, hm⟩ := h0; exact DataW.trod_lt m _ _ _ hm
  clear hA0 hval0
  rw [MakeChecks.laidMetH_plain _ _ _ (by kernel_rfl)] at hL
  refine (Sx.Sp.exholds_calls e0 a0 (vars hL)).mono fun e W' ⟨he, bel⟩ => ?_
  subst he
  exact ⟨_, rfl, _, _, _, [], _, [], hW', trodAll_mk1 (shut_bool Tryz.underlying4 _), (trodAll_cons_mk (Below.trod laidOut (by kernel_rfl) (of_decide_eq_true (by kernel_rfl)) h0 bel lt0) trodAll_mk0), rfl, bel.frame _, fun h => by cases h⟩

theorem over : Rows.exampleHoldsRow.holds Tryz.pinned (OpenSpec.ofChange Rows.exampleHoldsSpec) :=
  OpenClaim.holds_of_wide 4 Tryz.f4 rfl rfl rfl rfl rfl rfl rfl ⟨rfl, rfl, rfl, rfl, rfl⟩ rfl rfl rfl rfl rfl (by kernel_rfl) Tryz.func4 (by kernel_rfl)
    (of_decide_eq_true (by kernel_rfl)) (by unfold Func.isWrapper; first | (rw [if_pos (by decide +kernel)]; kernel_rfl) | (rw [if_neg (by decide +kernel)]; exact ⟨rfl, rfl⟩))
    (fun os started H enc _ => lifted os started H enc)

theorem proved : Rows.ExampleHoldsSaid := over
end Go.Proofs.YthlokmbefpjmgaaGreatDoor.exampleHolds
