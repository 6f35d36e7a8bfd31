/- Contracts of versions. -/
import Derived.Test.YtplmjmhanplimaaDoorQTwo
import Derived.Test.YtplmjmhanplimaaDoorSxFour
set_option linter.unusedVariables false
set_option linter.unusedSimpArgs false
namespace Go.Sx.Sp
open Go Go.Sx Go.Proofs
attribute [local irreducible] GoodW
end Go.Sx.Sp
namespace Go.Sx.Sp
open Go Go.Sx Go.Proofs
attribute [local irreducible] GoodW
end Go.Sx.Sp
namespace Go.Sx.Sp
open Go Go.Sx Go.Proofs
attribute [local irreducible] GoodW
end Go.Sx.Sp
namespace Go.Sx.Sp
open Go Go.Sx Go.Proofs
attribute [local irreducible] GoodW
end Go.Sx.Sp
namespace Go.Sx.Sp
open Go Go.Sx Go.Proofs
attribute [local irreducible] GoodW
end Go.Sx.Sp
namespace Go.Sx.Sp
open Go Go.Sx Go.Proofs
attribute [local irreducible] GoodW
def blen (n : Nat) : Int := match n with
  | 0 => 0 | 1 => 1 | 2 => 2 | 3 => 2 | 4 => 3 | 5 => 3 | 6 => 3 | 7 => 3 | _ => 4
set_option maxRecDepth 20000 in
set_option maxHeartbeats 8000000 in
theorem len64_spec (n : Nat) (hn : n ≤ 12) : Spec Tryd.prog 126 [.int .u64 n] [] (.int .i64 (blen n)) [] := by
  have h : n = 0 ∨ n = 1 ∨ n = 2 ∨ n = 3 ∨ n = 4 ∨ n = 5 ∨ n = 6 ∨ n = 7 ∨ n = 8 ∨ n = 9 ∨ n = 10 ∨ n = 11 ∨ n = 12 := by omega
  clear hn
  rcases h with rfl | rfl | rfl | rfl | rfl | rfl | rfl | rfl | rfl | rfl | rfl | rfl | rfl
  all_goals
    refine Spec.body env Tryd.func126 rfl (by kernel_rfl) (Nat.le_of_ble_eq_true (by kernel_rfl)) (keysSub rfl) fun Γ hN hK => ?_; have hML : maxLen = 9223372036854775807 := by unfold maxLen; rfl
    repeat (first | refine gA ?_ | refine gB ?_ | refine gC rfl ?_ | refine gD rfl ?_ | ((first | refine gE env hN (by kernel_rfl) ?_ | refine gF ?_ | refine gG ?_ | refine gH fun hlen => ?_ | refine gI (by kernel_rfl) ?_ | refine gN rfl ?_ | refine gN (by omega) ?_ | refine gJ rfl ?_ | refine gK (by omega) ?_ | refine gL (by omega) ?_ | refine gK rfl ?_ | refine gO ?_); conv => whnf))
    refine ⟨by decide, ?_⟩
    conv => whnf
    repeat (first | refine gA ?_ | refine gB ?_ | refine gC rfl ?_ | refine gD rfl ?_ | ((first | refine gE env hN (by kernel_rfl) ?_ | refine gF ?_ | refine gG ?_ | refine gH fun hlen => ?_ | refine gI (by kernel_rfl) ?_ | refine gN rfl ?_ | refine gN (by omega) ?_ | refine gJ rfl ?_ | refine gK (by omega) ?_ | refine gL (by omega) ?_ | refine gK rfl ?_ | refine gO ?_); conv => whnf))
    refine ⟨by decide, ?_⟩
    conv => whnf
    repeat (first | refine gA ?_ | refine gB ?_ | refine gC rfl ?_ | refine gD rfl ?_ | ((first | refine gE env hN (by kernel_rfl) ?_ | refine gF ?_ | refine gG ?_ | refine gH fun hlen => ?_ | refine gI (by kernel_rfl) ?_ | refine gN rfl ?_ | refine gN (by omega) ?_ | refine gJ rfl ?_ | refine gK (by omega) ?_ | refine gL (by omega) ?_ | refine gK rfl ?_ | refine gO ?_); conv => whnf))
    refine ⟨by decide, ?_⟩
    conv => whnf
    repeat (first | refine gA ?_ | refine gB ?_ | refine gC rfl ?_ | refine gD rfl ?_ | ((first | refine gE env hN (by kernel_rfl) ?_ | refine gF ?_ | refine gG ?_ | refine gH fun hlen => ?_ | refine gI (by kernel_rfl) ?_ | refine gN rfl ?_ | refine gN (by omega) ?_ | refine gJ rfl ?_ | refine gK (by omega) ?_ | refine gL (by omega) ?_ | refine gK rfl ?_ | refine gO ?_ | refine gM ?_); conv => whnf))
    exact ret0 rfl rfl rfl
set_option maxHeartbeats 1000000 in
theorem len_spec (n : Nat) (hn : n ≤ 12) : Spec Tryd.prog 101 [.int .u64 n] [] (.int .i64 (blen n)) [] := by
  have sp := len64_spec n hn
  refine Spec.body env Tryd.func101 rfl (by kernel_rfl) (Nat.le_of_ble_eq_true (by kernel_rfl)) (keysSub rfl) fun Γ hN hK => ?_; have hML : maxLen = 9223372036854775807 := by unfold maxLen; rfl
  repeat (first | refine gA ?_ | refine gB ?_ | refine gC rfl ?_ | refine gD rfl ?_ | ((first | refine gE env hN (by kernel_rfl) ?_ | refine gF ?_ | refine gG ?_ | refine gH fun hlen => ?_ | refine gI (by kernel_rfl) ?_ | refine gN rfl ?_ | refine gN (by omega) ?_ | refine gJ rfl ?_ | refine gK (by omega) ?_ | refine gL (by omega) ?_ | refine gK rfl ?_ | refine gO ?_); conv => whnf))
  (refine ⟨_, _, _, callG [] [] [] rfl rfl rfl (by kernel_rfl) (sp) (by repeat' (first | exact trivial | exact Lent.refl _ | exact Lent.norm _ | apply And.intro)) rfl ⟨rfl, rfl, rfl, rfl, rfl, trivial, rfl, rfl⟩, ?_⟩; conv => whnf)
  repeat (first | refine gA ?_ | refine gB ?_ | refine gC rfl ?_ | refine gD rfl ?_ | ((first | refine gE env hN (by kernel_rfl) ?_ | refine gF ?_ | refine gG ?_ | refine gH fun hlen => ?_ | refine gI (by kernel_rfl) ?_ | refine gN rfl ?_ | refine gN (by omega) ?_ | refine gJ rfl ?_ | refine gK (by omega) ?_ | refine gL (by omega) ?_ | refine gK rfl ?_ | refine gO ?_ | refine gM ?_); conv => whnf))
  exact ret0 rfl rfl rfl
end Go.Sx.Sp
