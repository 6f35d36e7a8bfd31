/- Contracts of versions. -/
import Derived.Test.YtplmjmhanplimaaDoorQTwo
import Derived.Test.YtplmjmhanplimaaDoorSxFour
set_option linter.unusedVariables false
set_option linter.unusedSimpArgs false
namespace Go.Sx.Sp
open Go Go.Sx Go.Proofs
attribute [local irreducible] GoodW
set_option maxHeartbeats 2000000 in
theorem find41_own (c : Coll) (id : Int) : Spec Tryd.prog 79 [.agg [.int .i64 c.version, .int .i64 c.oldest, .osl 0 0 0 (itemRows c.items).length (itemRows c.items).length], .int .i64 id] [(0, .rows 5 (itemRows c.items) (some []))] (.int .i64 (ixFrom (hasB id) c.items 0)) [(0, .rows 5 (itemRows c.items) (some []))] := by
  have hcl := itemRows_len c.items
  refine Spec.body env Tryd.func79 rfl (by kernel_rfl) (Nat.le_of_ble_eq_true (by kernel_rfl)) (keysSub rfl) fun Γ hN hK => ?_; have hML : maxLen = 9223372036854775807 := by unfold maxLen; rfl
  repeat (first | refine gA ?_ | refine gB ?_ | refine gC rfl ?_ | refine gD rfl ?_ | ((first | refine gE env hN (by kernel_rfl) ?_ | refine gF ?_ | refine gG ?_ | refine gH fun hlen => ?_ | refine gI (by kernel_rfl) ?_ | refine gN rfl ?_ | refine gN (by omega) ?_ | refine gJ rfl ?_ | refine gK (by omega) ?_ | refine gL (by omega) ?_ | refine gK rfl ?_ | refine gO ?_); conv => whnf))
  refine W.loopG (fun n st => ∃ k : Nat, k ≤ c.items.length ∧ ixFrom (hasB id) c.items 0 = ixFrom (hasB id) (c.items.drop k) k ∧ n = c.items.length - k ∧ st = ⟨[(1, .int .i64 id), (2, .bp 2 0), (8, .osl 0 0 0 (itemRows c.items).length (itemRows c.items).length), (9, .int .i64 (itemRows c.items).length), (10, .int .i64 k)], [(0, [.rows 5 (itemRows c.items) (some [])]), (2, [.rows 3 [[.int .i64 c.version, .int .i64 c.oldest, .osl 0 0 0 (itemRows c.items).length (itemRows c.items).length]] none])], [0, 2]⟩)
    c.items.length _ ⟨0, Nat.zero_le _, by simp, rfl, rfl⟩ ⟨[(0, 0), (2, 2)], [], [], LeG.mk' rfl rfl rfl (by repeat' (first | exact trivial | exact ⟨_, .refl _, rfl⟩ | apply And.intro)) (.cons 0 rfl rfl (.refl _) rfl (.cons 2 rfl rfl (.refl _) rfl .nil)) rfl rfl (by rw [hK]; rfl)⟩ ?_
  rintro n st ⟨k, hk, hix, rfl, rfl⟩
  repeat (first | refine gA ?_ | refine gB ?_ | refine gC rfl ?_ | refine gD rfl ?_ | ((first | refine gE env hN (by kernel_rfl) ?_ | refine gF ?_ | refine gG ?_ | refine gH fun hlen => ?_ | refine gI (by kernel_rfl) ?_ | refine gN rfl ?_ | refine gN (by omega) ?_ | refine gJ rfl ?_ | refine gK (by omega) ?_ | refine gL (by omega) ?_ | refine gK rfl ?_ | refine gO ?_); conv => whnf))
  refine boolRes_split (fun hb => ?_) (fun hb => ?_) <;> conv => whnf
  · have hlt : k < c.items.length := by omega
    have hx := itemRows_get hlt
    rw [List.drop_eq_getElem_cons hlt] at hix
    generalize c.items[k] = x at *
    simp only [ixFrom] at hix
    repeat (first | refine gA ?_ | refine gB ?_ | refine gC rfl ?_ | refine gD rfl ?_ | ((first | refine gE env hN (by kernel_rfl) ?_ | refine gF ?_ | refine gG ?_ | refine gH fun hlen => ?_ | refine gI (by kernel_rfl) ?_ | refine gN rfl ?_ | refine gN (by omega) ?_ | refine gJ rfl ?_ | refine gK (by omega) ?_ | refine gL (by omega) ?_ | refine gK rfl ?_ | refine gO ?_); conv => whnf))
    refine rowAt_of (by simpa using hx) ?_
    conv => whnf
    (
                                    (repeat (first | refine gA ?_ | refine gB ?_ | refine gC rfl ?_ | refine gD rfl ?_ | ((first | refine gE env hN (by kernel_rfl) ?_ | refine gF ?_ | refine gG ?_ | refine gH fun hlen => ?_ | refine gI (by kernel_rfl) ?_ | refine gN rfl ?_ | refine gN (by omega) ?_ | refine gJ rfl ?_ | refine gK (by omega) ?_ | refine gL (by omega) ?_ | refine gK rfl ?_ | refine gO ?_); conv => whnf)))
                                    first
                                      | (
                                        have hp : hasB id x = true := by simp [hasB]; omega
                                        rw [hp] at hix
                                        have hix2 : ixFrom (hasB id) c.items 0 = k := hix
                                        rw [hix2]
                                        repeat (first | refine gA ?_ | refine gB ?_ | refine gC rfl ?_ | refine gD rfl ?_ | ((first | refine gE env hN (by kernel_rfl) ?_ | refine gF ?_ | refine gG ?_ | refine gH fun hlen => ?_ | refine gI (by kernel_rfl) ?_ | refine gN rfl ?_ | refine gN (by omega) ?_ | refine gJ rfl ?_ | refine gK (by omega) ?_ | refine gL (by omega) ?_ | refine gK rfl ?_ | refine gO ?_ | refine gM ?_); conv => whnf))
                                        exact retH rfl (.refl _) rfl rfl rfl ⟨rfl, rfl, trivial⟩
                                        done)
                                      | (
                                        have hp : hasB id x = false := by simp [hasB]; omega
                                        rw [hp] at hix
                                        refine ⟨_, _, ?_, ⟨k + 1, by omega, by rw [hix]; rfl, rfl, rfl⟩, ⟨[(0, 0), (2, 2)], [], [], LeG.mk' rfl rfl rfl (by repeat' (first | exact trivial | exact ⟨_, .refl _, rfl⟩ | apply And.intro)) (.cons 0 rfl rfl (.refl _) rfl (.cons 2 rfl rfl (.refl _) rfl .nil)) rfl rfl (by rw [hK]; rfl)⟩⟩
                                        omega
                                        done)
                                      | ((refine boolRes_split (fun hb => ?_) (fun hb => ?_) <;> conv => whnf) <;> (
                                    (repeat (first | refine gA ?_ | refine gB ?_ | refine gC rfl ?_ | refine gD rfl ?_ | ((first | refine gE env hN (by kernel_rfl) ?_ | refine gF ?_ | refine gG ?_ | refine gH fun hlen => ?_ | refine gI (by kernel_rfl) ?_ | refine gN rfl ?_ | refine gN (by omega) ?_ | refine gJ rfl ?_ | refine gK (by omega) ?_ | refine gL (by omega) ?_ | refine gK rfl ?_ | refine gO ?_); conv => whnf)))
                                    first
                                      | (
                                        have hp : hasB id x = true := by simp [hasB]; omega
                                        rw [hp] at hix
                                        have hix2 : ixFrom (hasB id) c.items 0 = k := hix
                                        rw [hix2]
                                        repeat (first | refine gA ?_ | refine gB ?_ | refine gC rfl ?_ | refine gD rfl ?_ | ((first | refine gE env hN (by kernel_rfl) ?_ | refine gF ?_ | refine gG ?_ | refine gH fun hlen => ?_ | refine gI (by kernel_rfl) ?_ | refine gN rfl ?_ | refine gN (by omega) ?_ | refine gJ rfl ?_ | refine gK (by omega) ?_ | refine gL (by omega) ?_ | refine gK rfl ?_ | refine gO ?_ | refine gM ?_); conv => whnf))
                                        exact retH rfl (.refl _) rfl rfl rfl ⟨rfl, rfl, trivial⟩
                                        done)
                                      | (
                                        have hp : hasB id x = false := by simp [hasB]; omega
                                        rw [hp] at hix
                                        refine ⟨_, _, ?_, ⟨k + 1, by omega, by rw [hix]; rfl, rfl, rfl⟩, ⟨[(0, 0), (2, 2)], [], [], LeG.mk' rfl rfl rfl (by repeat' (first | exact trivial | exact ⟨_, .refl _, rfl⟩ | apply And.intro)) (.cons 0 rfl rfl (.refl _) rfl (.cons 2 rfl rfl (.refl _) rfl .nil)) rfl rfl (by rw [hK]; rfl)⟩⟩
                                        omega
                                        done)
                                      | ((refine boolRes_split (fun hb => ?_) (fun hb => ?_) <;> conv => whnf) <;> (
                                    (repeat (first | refine gA ?_ | refine gB ?_ | refine gC rfl ?_ | refine gD rfl ?_ | ((first | refine gE env hN (by kernel_rfl) ?_ | refine gF ?_ | refine gG ?_ | refine gH fun hlen => ?_ | refine gI (by kernel_rfl) ?_ | refine gN rfl ?_ | refine gN (by omega) ?_ | refine gJ rfl ?_ | refine gK (by omega) ?_ | refine gL (by omega) ?_ | refine gK rfl ?_ | refine gO ?_); conv => whnf)))
                                    first
                                      | (
                                        have hp : hasB id x = true := by simp [hasB]; omega
                                        rw [hp] at hix
                                        have hix2 : ixFrom (hasB id) c.items 0 = k := hix
                                        rw [hix2]
                                        repeat (first | refine gA ?_ | refine gB ?_ | refine gC rfl ?_ | refine gD rfl ?_ | ((first | refine gE env hN (by kernel_rfl) ?_ | refine gF ?_ | refine gG ?_ | refine gH fun hlen => ?_ | refine gI (by kernel_rfl) ?_ | refine gN rfl ?_ | refine gN (by omega) ?_ | refine gJ rfl ?_ | refine gK (by omega) ?_ | refine gL (by omega) ?_ | refine gK rfl ?_ | refine gO ?_ | refine gM ?_); conv => whnf))
                                        exact retH rfl (.refl _) rfl rfl rfl ⟨rfl, rfl, trivial⟩
                                        done)
                                      | (
                                        have hp : hasB id x = false := by simp [hasB]; omega
                                        rw [hp] at hix
                                        refine ⟨_, _, ?_, ⟨k + 1, by omega, by rw [hix]; rfl, rfl, rfl⟩, ⟨[(0, 0), (2, 2)], [], [], LeG.mk' rfl rfl rfl (by repeat' (first | exact trivial | exact ⟨_, .refl _, rfl⟩ | apply And.intro)) (.cons 0 rfl rfl (.refl _) rfl (.cons 2 rfl rfl (.refl _) rfl .nil)) rfl rfl (by rw [hK]; rfl)⟩⟩
                                        omega
                                        done)
                                      | ((refine boolRes_split (fun hb => ?_) (fun hb => ?_) <;> conv => whnf) <;> (
                                    (repeat (first | refine gA ?_ | refine gB ?_ | refine gC rfl ?_ | refine gD rfl ?_ | ((first | refine gE env hN (by kernel_rfl) ?_ | refine gF ?_ | refine gG ?_ | refine gH fun hlen => ?_ | refine gI (by kernel_rfl) ?_ | refine gN rfl ?_ | refine gN (by omega) ?_ | refine gJ rfl ?_ | refine gK (by omega) ?_ | refine gL (by omega) ?_ | refine gK rfl ?_ | refine gO ?_); conv => whnf)))
                                    first
                                      | (
                                        have hp : hasB id x = true := by simp [hasB]; omega
                                        rw [hp] at hix
                                        have hix2 : ixFrom (hasB id) c.items 0 = k := hix
                                        rw [hix2]
                                        repeat (first | refine gA ?_ | refine gB ?_ | refine gC rfl ?_ | refine gD rfl ?_ | ((first | refine gE env hN (by kernel_rfl) ?_ | refine gF ?_ | refine gG ?_ | refine gH fun hlen => ?_ | refine gI (by kernel_rfl) ?_ | refine gN rfl ?_ | refine gN (by omega) ?_ | refine gJ rfl ?_ | refine gK (by omega) ?_ | refine gL (by omega) ?_ | refine gK rfl ?_ | refine gO ?_ | refine gM ?_); conv => whnf))
                                        exact retH rfl (.refl _) rfl rfl rfl ⟨rfl, rfl, trivial⟩
                                        done)
                                      | (
                                        have hp : hasB id x = false := by simp [hasB]; omega
                                        rw [hp] at hix
                                        refine ⟨_, _, ?_, ⟨k + 1, by omega, by rw [hix]; rfl, rfl, rfl⟩, ⟨[(0, 0), (2, 2)], [], [], LeG.mk' rfl rfl rfl (by repeat' (first | exact trivial | exact ⟨_, .refl _, rfl⟩ | apply And.intro)) (.cons 0 rfl rfl (.refl _) rfl (.cons 2 rfl rfl (.refl _) rfl .nil)) rfl rfl (by rw [hK]; rfl)⟩⟩
                                        omega
                                        done)
                                      | ((refine boolRes_split (fun hb => ?_) (fun hb => ?_) <;> conv => whnf) <;> (
                                    (repeat (first | refine gA ?_ | refine gB ?_ | refine gC rfl ?_ | refine gD rfl ?_ | ((first | refine gE env hN (by kernel_rfl) ?_ | refine gF ?_ | refine gG ?_ | refine gH fun hlen => ?_ | refine gI (by kernel_rfl) ?_ | refine gN rfl ?_ | refine gN (by omega) ?_ | refine gJ rfl ?_ | refine gK (by omega) ?_ | refine gL (by omega) ?_ | refine gK rfl ?_ | refine gO ?_); conv => whnf)))
                                    first
                                      | (
                                        have hp : hasB id x = true := by simp [hasB]; omega
                                        rw [hp] at hix
                                        have hix2 : ixFrom (hasB id) c.items 0 = k := hix
                                        rw [hix2]
                                        repeat (first | refine gA ?_ | refine gB ?_ | refine gC rfl ?_ | refine gD rfl ?_ | ((first | refine gE env hN (by kernel_rfl) ?_ | refine gF ?_ | refine gG ?_ | refine gH fun hlen => ?_ | refine gI (by kernel_rfl) ?_ | refine gN rfl ?_ | refine gN (by omega) ?_ | refine gJ rfl ?_ | refine gK (by omega) ?_ | refine gL (by omega) ?_ | refine gK rfl ?_ | refine gO ?_ | refine gM ?_); conv => whnf))
                                        exact retH rfl (.refl _) rfl rfl rfl ⟨rfl, rfl, trivial⟩
                                        done)
                                      | (
                                        have hp : hasB id x = false := by simp [hasB]; omega
                                        rw [hp] at hix
                                        refine ⟨_, _, ?_, ⟨k + 1, by omega, by rw [hix]; rfl, rfl, rfl⟩, ⟨[(0, 0), (2, 2)], [], [], LeG.mk' rfl rfl rfl (by repeat' (first | exact trivial | exact ⟨_, .refl _, rfl⟩ | apply And.intro)) (.cons 0 rfl rfl (.refl _) rfl (.cons 2 rfl rfl (.refl _) rfl .nil)) rfl rfl (by rw [hK]; rfl)⟩⟩
                                        omega
                                        done)
                                      | ((refine boolRes_split (fun hb => ?_) (fun hb => ?_) <;> conv => whnf) <;> (
                                    (repeat (first | refine gA ?_ | refine gB ?_ | refine gC rfl ?_ | refine gD rfl ?_ | ((first | refine gE env hN (by kernel_rfl) ?_ | refine gF ?_ | refine gG ?_ | refine gH fun hlen => ?_ | refine gI (by kernel_rfl) ?_ | refine gN rfl ?_ | refine gN (by omega) ?_ | refine gJ rfl ?_ | refine gK (by omega) ?_ | refine gL (by omega) ?_ | refine gK rfl ?_ | refine gO ?_); conv => whnf)))
                                    first
                                      | (
                                        have hp : hasB id x = true := by simp [hasB]; omega
                                        rw [hp] at hix
                                        have hix2 : ixFrom (hasB id) c.items 0 = k := hix
                                        rw [hix2]
                                        repeat (first | refine gA ?_ | refine gB ?_ | refine gC rfl ?_ | refine gD rfl ?_ | ((first | refine gE env hN (by kernel_rfl) ?_ | refine gF ?_ | refine gG ?_ | refine gH fun hlen => ?_ | refine gI (by kernel_rfl) ?_ | refine gN rfl ?_ | refine gN (by omega) ?_ | refine gJ rfl ?_ | refine gK (by omega) ?_ | refine gL (by omega) ?_ | refine gK rfl ?_ | refine gO ?_ | refine gM ?_); conv => whnf))
                                        exact retH rfl (.refl _) rfl rfl rfl ⟨rfl, rfl, trivial⟩
                                        done)
                                      | (
                                        have hp : hasB id x = false := by simp [hasB]; omega
                                        rw [hp] at hix
                                        refine ⟨_, _, ?_, ⟨k + 1, by omega, by rw [hix]; rfl, rfl, rfl⟩, ⟨[(0, 0), (2, 2)], [], [], LeG.mk' rfl rfl rfl (by repeat' (first | exact trivial | exact ⟨_, .refl _, rfl⟩ | apply And.intro)) (.cons 0 rfl rfl (.refl _) rfl (.cons 2 rfl rfl (.refl _) rfl .nil)) rfl rfl (by rw [hK]; rfl)⟩⟩
                                        omega
                                        done)
                                      | ((refine boolRes_split (fun hb => ?_) (fun hb => ?_) <;> conv => whnf) <;> (
                                    (repeat (first | refine gA ?_ | refine gB ?_ | refine gC rfl ?_ | refine gD rfl ?_ | ((first | refine gE env hN (by kernel_rfl) ?_ | refine gF ?_ | refine gG ?_ | refine gH fun hlen => ?_ | refine gI (by kernel_rfl) ?_ | refine gN rfl ?_ | refine gN (by omega) ?_ | refine gJ rfl ?_ | refine gK (by omega) ?_ | refine gL (by omega) ?_ | refine gK rfl ?_ | refine gO ?_); conv => whnf)))
                                    first
                                      | (
                                        have hp : hasB id x = true := by simp [hasB]; omega
                                        rw [hp] at hix
                                        have hix2 : ixFrom (hasB id) c.items 0 = k := hix
                                        rw [hix2]
                                        repeat (first | refine gA ?_ | refine gB ?_ | refine gC rfl ?_ | refine gD rfl ?_ | ((first | refine gE env hN (by kernel_rfl) ?_ | refine gF ?_ | refine gG ?_ | refine gH fun hlen => ?_ | refine gI (by kernel_rfl) ?_ | refine gN rfl ?_ | refine gN (by omega) ?_ | refine gJ rfl ?_ | refine gK (by omega) ?_ | refine gL (by omega) ?_ | refine gK rfl ?_ | refine gO ?_ | refine gM ?_); conv => whnf))
                                        exact retH rfl (.refl _) rfl rfl rfl ⟨rfl, rfl, trivial⟩
                                        done)
                                      | (
                                        have hp : hasB id x = false := by simp [hasB]; omega
                                        rw [hp] at hix
                                        refine ⟨_, _, ?_, ⟨k + 1, by omega, by rw [hix]; rfl, rfl, rfl⟩, ⟨[(0, 0), (2, 2)], [], [], LeG.mk' rfl rfl rfl (by repeat' (first | exact trivial | exact ⟨_, .refl _, rfl⟩ | apply And.intro)) (.cons 0 rfl rfl (.refl _) rfl (.cons 2 rfl rfl (.refl _) rfl .nil)) rfl rfl (by rw [hK]; rfl)⟩⟩
                                        omega
                                        done)
                                      | ((refine boolRes_split (fun hb => ?_) (fun hb => ?_) <;> conv => whnf) <;> (
                                    (repeat (first | refine gA ?_ | refine gB ?_ | refine gC rfl ?_ | refine gD rfl ?_ | ((first | refine gE env hN (by kernel_rfl) ?_ | refine gF ?_ | refine gG ?_ | refine gH fun hlen => ?_ | refine gI (by kernel_rfl) ?_ | refine gN rfl ?_ | refine gN (by omega) ?_ | refine gJ rfl ?_ | refine gK (by omega) ?_ | refine gL (by omega) ?_ | refine gK rfl ?_ | refine gO ?_); conv => whnf)))
                                    first
                                      | (
                                        have hp : hasB id x = true := by simp [hasB]; omega
                                        rw [hp] at hix
                                        have hix2 : ixFrom (hasB id) c.items 0 = k := hix
                                        rw [hix2]
                                        repeat (first | refine gA ?_ | refine gB ?_ | refine gC rfl ?_ | refine gD rfl ?_ | ((first | refine gE env hN (by kernel_rfl) ?_ | refine gF ?_ | refine gG ?_ | refine gH fun hlen => ?_ | refine gI (by kernel_rfl) ?_ | refine gN rfl ?_ | refine gN (by omega) ?_ | refine gJ rfl ?_ | refine gK (by omega) ?_ | refine gL (by omega) ?_ | refine gK rfl ?_ | refine gO ?_ | refine gM ?_); conv => whnf))
                                        exact retH rfl (.refl _) rfl rfl rfl ⟨rfl, rfl, trivial⟩
                                        done)
                                      | (
                                        have hp : hasB id x = false := by simp [hasB]; omega
                                        rw [hp] at hix
                                        refine ⟨_, _, ?_, ⟨k + 1, by omega, by rw [hix]; rfl, rfl, rfl⟩, ⟨[(0, 0), (2, 2)], [], [], LeG.mk' rfl rfl rfl (by repeat' (first | exact trivial | exact ⟨_, .refl _, rfl⟩ | apply And.intro)) (.cons 0 rfl rfl (.refl _) rfl (.cons 2 rfl rfl (.refl _) rfl .nil)) rfl rfl (by rw [hK]; rfl)⟩⟩
                                        omega
                                        done)
                                      | ((refine boolRes_split (fun hb => ?_) (fun hb => ?_) <;> conv => whnf) <;> (
                                    (repeat (first | refine gA ?_ | refine gB ?_ | refine gC rfl ?_ | refine gD rfl ?_ | ((first | refine gE env hN (by kernel_rfl) ?_ | refine gF ?_ | refine gG ?_ | refine gH fun hlen => ?_ | refine gI (by kernel_rfl) ?_ | refine gN rfl ?_ | refine gN (by omega) ?_ | refine gJ rfl ?_ | refine gK (by omega) ?_ | refine gL (by omega) ?_ | refine gK rfl ?_ | refine gO ?_); conv => whnf)))
                                    first
                                      | (
                                        have hp : hasB id x = true := by simp [hasB]; omega
                                        rw [hp] at hix
                                        have hix2 : ixFrom (hasB id) c.items 0 = k := hix
                                        rw [hix2]
                                        repeat (first | refine gA ?_ | refine gB ?_ | refine gC rfl ?_ | refine gD rfl ?_ | ((first | refine gE env hN (by kernel_rfl) ?_ | refine gF ?_ | refine gG ?_ | refine gH fun hlen => ?_ | refine gI (by kernel_rfl) ?_ | refine gN rfl ?_ | refine gN (by omega) ?_ | refine gJ rfl ?_ | refine gK (by omega) ?_ | refine gL (by omega) ?_ | refine gK rfl ?_ | refine gO ?_ | refine gM ?_); conv => whnf))
                                        exact retH rfl (.refl _) rfl rfl rfl ⟨rfl, rfl, trivial⟩
                                        done)
                                      | (
                                        have hp : hasB id x = false := by simp [hasB]; omega
                                        rw [hp] at hix
                                        refine ⟨_, _, ?_, ⟨k + 1, by omega, by rw [hix]; rfl, rfl, rfl⟩, ⟨[(0, 0), (2, 2)], [], [], LeG.mk' rfl rfl rfl (by repeat' (first | exact trivial | exact ⟨_, .refl _, rfl⟩ | apply And.intro)) (.cons 0 rfl rfl (.refl _) rfl (.cons 2 rfl rfl (.refl _) rfl .nil)) rfl rfl (by rw [hK]; rfl)⟩⟩
                                        omega
                                        done)
                                      | ((refine boolRes_split (fun hb => ?_) (fun hb => ?_) <;> conv => whnf) <;> fail))))))))))))))))))
  · have hke : k = c.items.length := by omega
    rw [hke, List.drop_length] at hix
    have hix2 : ixFrom (hasB id) c.items 0 = -1 := hix
    rw [hix2]
    repeat (first | refine gA ?_ | refine gB ?_ | refine gC rfl ?_ | refine gD rfl ?_ | ((first | refine gE env hN (by kernel_rfl) ?_ | refine gF ?_ | refine gG ?_ | refine gH fun hlen => ?_ | refine gI (by kernel_rfl) ?_ | refine gN rfl ?_ | refine gN (by omega) ?_ | refine gJ rfl ?_ | refine gK (by omega) ?_ | refine gL (by omega) ?_ | refine gK rfl ?_ | refine gO ?_ | refine gM ?_); conv => whnf))
    exact retH rfl (.refl _) rfl rfl rfl ⟨rfl, rfl, trivial⟩
end Go.Sx.Sp
namespace Go.Sx.Sp
open Go Go.Sx Go.Proofs
attribute [local irreducible] GoodW
set_option maxHeartbeats 4000000 in
theorem put41_spec (c : Coll) (t : Table) : Spec Tryd.prog 41 [.agg c.row, .agg t.row] [] (.tup [.agg (putM c t).1.row, .int .i64 (putM c t).2]) [] := by
  have sp1 := valid41_spec c
  have sp2 := valid3_spec t
  have sp3 := find41_own ⟨c.version + 1, c.oldest, c.items⟩ t.id
  have hcl := itemRows_len c.items
  refine Spec.body env Tryd.func41 rfl (by kernel_rfl) (Nat.le_of_ble_eq_true (by kernel_rfl)) (keysSub rfl) fun Γ hN hK => ?_; have hML : maxLen = 9223372036854775807 := by unfold maxLen; rfl
  cases h1 : collB c with
  | false =>
    rw [h1] at sp1
    repeat (first | refine gA ?_ | refine gB ?_ | refine gC rfl ?_ | refine gD rfl ?_ | ((first | refine gE env hN (by kernel_rfl) ?_ | refine gF ?_ | refine gG ?_ | refine gH fun hlen => ?_ | refine gI (by kernel_rfl) ?_ | refine gN rfl ?_ | refine gN (by omega) ?_ | refine gJ rfl ?_ | refine gK (by omega) ?_ | refine gL (by omega) ?_ | refine gK rfl ?_ | refine gO ?_); conv => whnf))
    (refine ⟨_, _, _, callG [] [] [] rfl rfl rfl (by kernel_rfl) (sp1) (by repeat' (first | exact trivial | exact Lent.refl _ | exact Lent.norm _ | apply And.intro)) rfl ⟨rfl, rfl, rfl, rfl, rfl, trivial, rfl, rfl⟩, ?_⟩; conv => whnf)
    repeat (first | refine gA ?_ | refine gB ?_ | refine gC rfl ?_ | refine gD rfl ?_ | ((first | refine gE env hN (by kernel_rfl) ?_ | refine gF ?_ | refine gG ?_ | refine gH fun hlen => ?_ | refine gI (by kernel_rfl) ?_ | refine gN rfl ?_ | refine gN (by omega) ?_ | refine gJ rfl ?_ | refine gK (by omega) ?_ | refine gL (by omega) ?_ | refine gK rfl ?_ | refine gO ?_ | refine gM ?_); conv => whnf))
    exact ret0 rfl (by rw [show putM c t = (Coll.zero, 1) by simp [putM, h1]]; rfl) rfl
  | true =>
    rw [h1] at sp1
    repeat (first | refine gA ?_ | refine gB ?_ | refine gC rfl ?_ | refine gD rfl ?_ | ((first | refine gE env hN (by kernel_rfl) ?_ | refine gF ?_ | refine gG ?_ | refine gH fun hlen => ?_ | refine gI (by kernel_rfl) ?_ | refine gN rfl ?_ | refine gN (by omega) ?_ | refine gJ rfl ?_ | refine gK (by omega) ?_ | refine gL (by omega) ?_ | refine gK rfl ?_ | refine gO ?_); conv => whnf))
    (refine ⟨_, _, _, callG [] [] [] rfl rfl rfl (by kernel_rfl) (sp1) (by repeat' (first | exact trivial | exact Lent.refl _ | exact Lent.norm _ | apply And.intro)) rfl ⟨rfl, rfl, rfl, rfl, rfl, trivial, rfl, rfl⟩, ?_⟩; conv => whnf)
    repeat (first | refine gA ?_ | refine gB ?_ | refine gC rfl ?_ | refine gD rfl ?_ | ((first | refine gE env hN (by kernel_rfl) ?_ | refine gF ?_ | refine gG ?_ | refine gH fun hlen => ?_ | refine gI (by kernel_rfl) ?_ | refine gN rfl ?_ | refine gN (by omega) ?_ | refine gJ rfl ?_ | refine gK (by omega) ?_ | refine gL (by omega) ?_ | refine gK rfl ?_ | refine gO ?_); conv => whnf))
    cases h2 : validB t with
    | false =>
      rw [h2] at sp2
      (refine ⟨_, _, _, callG [] [] [] rfl rfl rfl (by kernel_rfl) (sp2) (by repeat' (first | exact trivial | exact Lent.refl _ | exact Lent.norm _ | apply And.intro)) rfl ⟨rfl, rfl, rfl, rfl, rfl, trivial, rfl, rfl⟩, ?_⟩; conv => whnf)
      repeat (first | refine gA ?_ | refine gB ?_ | refine gC rfl ?_ | refine gD rfl ?_ | ((first | refine gE env hN (by kernel_rfl) ?_ | refine gF ?_ | refine gG ?_ | refine gH fun hlen => ?_ | refine gI (by kernel_rfl) ?_ | refine gN rfl ?_ | refine gN (by omega) ?_ | refine gJ rfl ?_ | refine gK (by omega) ?_ | refine gL (by omega) ?_ | refine gK rfl ?_ | refine gO ?_ | refine gM ?_); conv => whnf))
      exact ret0 rfl (by rw [show putM c t = (Coll.zero, 1) by simp [putM, h2]]; rfl) rfl
    | true =>
      rw [h2] at sp2
      (refine ⟨_, _, _, callG [] [] [] rfl rfl rfl (by kernel_rfl) (sp2) (by repeat' (first | exact trivial | exact Lent.refl _ | exact Lent.norm _ | apply And.intro)) rfl ⟨rfl, rfl, rfl, rfl, rfl, trivial, rfl, rfl⟩, ?_⟩; conv => whnf)
      repeat (first | refine gA ?_ | refine gB ?_ | refine gC rfl ?_ | refine gD rfl ?_ | ((first | refine gE env hN (by kernel_rfl) ?_ | refine gF ?_ | refine gG ?_ | refine gH fun hlen => ?_ | refine gI (by kernel_rfl) ?_ | refine gN rfl ?_ | refine gN (by omega) ?_ | refine gJ rfl ?_ | refine gK (by omega) ?_ | refine gL (by omega) ?_ | refine gK rfl ?_ | refine gO ?_); conv => whnf))
      refine boolRes_split (fun hb => ?_) (fun hb => ?_) <;> conv => whnf
      · repeat (first | refine gA ?_ | refine gB ?_ | refine gC rfl ?_ | refine gD rfl ?_ | ((first | refine gE env hN (by kernel_rfl) ?_ | refine gF ?_ | refine gG ?_ | refine gH fun hlen => ?_ | refine gI (by kernel_rfl) ?_ | refine gN rfl ?_ | refine gN (by omega) ?_ | refine gJ rfl ?_ | refine gK (by omega) ?_ | refine gL (by omega) ?_ | refine gK rfl ?_ | refine gO ?_ | refine gM ?_); conv => whnf))
        exact ret0 rfl (by rw [show putM c t = (Coll.zero, 1) by simp [putM]; omega]; rfl) rfl
      have h3 : 1 ≤ t.id := by omega
      have hlim : c.version ≤ 1073741824 ∧ c.items.length ≤ 1024 := by
        simp only [collB, Bool.and_eq_true, decide_eq_true_eq] at h1
        omega
      repeat (first | refine gA ?_ | refine gB ?_ | refine gC rfl ?_ | refine gD rfl ?_ | ((first | refine gE env hN (by kernel_rfl) ?_ | refine gF ?_ | refine gG ?_ | refine gH fun hlen => ?_ | refine gI (by kernel_rfl) ?_ | refine gN rfl ?_ | refine gN (by omega) ?_ | refine gJ rfl ?_ | refine gK (by omega) ?_ | refine gL (by omega) ?_ | refine gK rfl ?_ | refine gO ?_); conv => whnf))
      refine boolRes_split (fun hb => ?_) (fun hb => ?_) <;> conv => whnf
      · repeat (first | refine gA ?_ | refine gB ?_ | refine gC rfl ?_ | refine gD rfl ?_ | ((first | refine gE env hN (by kernel_rfl) ?_ | refine gF ?_ | refine gG ?_ | refine gH fun hlen => ?_ | refine gI (by kernel_rfl) ?_ | refine gN rfl ?_ | refine gN (by omega) ?_ | refine gJ rfl ?_ | refine gK (by omega) ?_ | refine gL (by omega) ?_ | refine gK rfl ?_ | refine gO ?_ | refine gM ?_); conv => whnf))
        exact ret0 rfl (by rw [show putM c t = (Coll.zero, 3) by simp [putM, h1, h2, h3]; omega]; rfl) rfl
      repeat (first | refine gA ?_ | refine gB ?_ | refine gC rfl ?_ | refine gD rfl ?_ | ((first | refine gE env hN (by kernel_rfl) ?_ | refine gF ?_ | refine gG ?_ | refine gH fun hlen => ?_ | refine gI (by kernel_rfl) ?_ | refine gN rfl ?_ | refine gN (by omega) ?_ | refine gJ rfl ?_ | refine gK (by omega) ?_ | refine gL (by omega) ?_ | refine gK rfl ?_ | refine gO ?_); conv => whnf))
      refine boolRes_split (fun hb => ?_) (fun hb => ?_) <;> conv => whnf
      · repeat (first | refine gA ?_ | refine gB ?_ | refine gC rfl ?_ | refine gD rfl ?_ | ((first | refine gE env hN (by kernel_rfl) ?_ | refine gF ?_ | refine gG ?_ | refine gH fun hlen => ?_ | refine gI (by kernel_rfl) ?_ | refine gN rfl ?_ | refine gN (by omega) ?_ | refine gJ rfl ?_ | refine gK (by omega) ?_ | refine gL (by omega) ?_ | refine gK rfl ?_ | refine gO ?_ | refine gM ?_); conv => whnf))
        exact ret0 rfl (by rw [show putM c t = (Coll.zero, 3) by simp [putM, h1, h2, h3]; omega]; rfl) rfl
      have hm : putM c t = (⟨c.version + 1, c.oldest, closeAt c.items (ixFrom (hasB t.id) c.items 0) (c.version + 1) ++ [⟨t, c.version + 1, 0⟩]⟩, 0) := by
        have h4 : ¬ (1024 ≤ c.items.length ∨ 1073741824 ≤ c.version) := by omega
        simp [putM, h1, h2, h3, h4]
      rw [hm]
      have hfew := collB_few h1
      have hv0 : 0 ≤ c.version := by
        simp only [collB, Bool.and_eq_true, decide_eq_true_eq] at h1
        omega
      have hfit : fitsV ((itemRows c.items).length + 1) 64 := fitN (by omega) (by omega)
      have sp4 := copy41_spec c hfew
      have sp5 := copy38_spec t (validB_few h2)
      repeat (first | refine gA ?_ | refine gB ?_ | refine gC rfl ?_ | refine gD rfl ?_ | ((first | refine gE env hN (by kernel_rfl) ?_ | refine gF ?_ | refine gG ?_ | refine gH fun hlen => ?_ | refine gI (by kernel_rfl) ?_ | refine gN rfl ?_ | refine gN (by omega) ?_ | refine gJ rfl ?_ | refine gK (by omega) ?_ | refine gL (by omega) ?_ | refine gK rfl ?_ | refine gO ?_); conv => whnf))
      (refine ⟨_, _, _, callG [] [(27, 11)] [] rfl rfl rfl (by kernel_rfl) (sp4) (by repeat' (first | exact trivial | exact Lent.refl _ | exact Lent.norm _ | apply And.intro)) rfl ⟨rfl, rfl, rfl, rfl, rfl, by repeat' (first | exact trivial | rfl | apply And.intro), rfl, rfl⟩, ?_⟩; conv => whnf)
      repeat (first | refine gA ?_ | refine gB ?_ | refine gC rfl ?_ | refine gD rfl ?_ | ((first | refine gE env hN (by kernel_rfl) ?_ | refine gF ?_ | refine gG ?_ | refine gH fun hlen => ?_ | refine gI (by kernel_rfl) ?_ | refine gN rfl ?_ | refine gN (by omega) ?_ | refine gJ rfl ?_ | refine gK (by omega) ?_ | refine gL (by omega) ?_ | refine gK rfl ?_ | refine gO ?_); conv => whnf))
      (refine ⟨_, _, _, callG [(0, 11)] [] [] rfl rfl rfl (by kernel_rfl) (sp3) (by repeat' (first | exact trivial | exact Lent.refl _ | exact Lent.norm _ | apply And.intro)) rfl ⟨rfl, rfl, rfl, rfl, rfl, by repeat' (first | exact trivial | rfl | apply And.intro), rfl, rfl⟩, ?_⟩; conv => whnf)
      repeat (first | refine gA ?_ | refine gB ?_ | refine gC rfl ?_ | refine gD rfl ?_ | ((first | refine gE env hN (by kernel_rfl) ?_ | refine gF ?_ | refine gG ?_ | refine gH fun hlen => ?_ | refine gI (by kernel_rfl) ?_ | refine gN rfl ?_ | refine gN (by omega) ?_ | refine gJ rfl ?_ | refine gK (by omega) ?_ | refine gL (by omega) ?_ | refine gK rfl ?_ | refine gO ?_); conv => whnf))
      rcases ixFrom_cases (hasB t.id) c.items 0 with ⟨h5, h6⟩ | ⟨i, hi, h5, h6⟩
      · rw [h5] at *
        repeat (first | refine gA ?_ | refine gB ?_ | refine gC rfl ?_ | refine gD rfl ?_ | ((first | refine gE env hN (by kernel_rfl) ?_ | refine gF ?_ | refine gG ?_ | refine gH fun hlen => ?_ | refine gI (by kernel_rfl) ?_ | refine gN rfl ?_ | refine gN (by omega) ?_ | refine gJ rfl ?_ | refine gK (by omega) ?_ | refine gL (by omega) ?_ | refine gK rfl ?_ | refine gO ?_); conv => whnf))
        (refine ⟨_, _, _, callG [] [] [] rfl rfl rfl (by kernel_rfl) (sp5) (by repeat' (first | exact trivial | exact Lent.refl _ | exact Lent.norm _ | apply And.intro)) rfl ⟨rfl, rfl, rfl, rfl, rfl, trivial, rfl, rfl⟩, ?_⟩; conv => whnf)
        repeat (first | refine gA ?_ | refine gB ?_ | refine gC rfl ?_ | refine gD rfl ?_ | ((first | refine gE env hN (by kernel_rfl) ?_ | refine gF ?_ | refine gG ?_ | refine gH fun hlen => ?_ | refine gI (by kernel_rfl) ?_ | refine gN rfl ?_ | refine gN (by omega) ?_ | refine gJ rfl ?_ | refine gK (by omega) ?_ | refine gL (by omega) ?_ | refine gK rfl ?_ | refine gO ?_); conv => whnf))
        refine ⟨⟨rowsSz_cons rfl rowsSz_nil, rfl⟩, hfit, .inl ⟨rfl, rfl, ?_⟩⟩
        conv => whnf
        repeat (first | refine gA ?_ | refine gB ?_ | refine gC rfl ?_ | refine gD rfl ?_ | ((first | refine gE env hN (by kernel_rfl) ?_ | refine gF ?_ | refine gG ?_ | refine gH fun hlen => ?_ | refine gI (by kernel_rfl) ?_ | refine gN rfl ?_ | refine gN (by omega) ?_ | refine gJ rfl ?_ | refine gK (by omega) ?_ | refine gL (by omega) ?_ | refine gK rfl ?_ | refine gO ?_); conv => whnf))
        refine W.leG (mp := [(4, 4)]) (bo := [11]) (st' := ⟨[(4, .bp 4 0), (5, .int .i64 0)], [(4, [.rows 3 [[.int .i64 (c.version + 1), .int .i64 c.oldest, .sl (itemRows c.items ++ [(Item.mk t (c.version + 1) 0).row]) false]] none])], [4]⟩) (LeG.mk' rfl rfl rfl (by repeat' (first | exact trivial | exact ⟨_, .refl _, rfl⟩ | apply And.intro)) (.cons 4 (b1 := .rows 3 [[.int .i64 (c.version + 1), .int .i64 c.oldest, .sl (itemRows c.items ++ [(Item.mk t (c.version + 1) 0).row]) false]] none) rfl rfl (.rows _ _ _ (by repeat' (first | exact trivial | exact ⟨Lent.refl _, rfl⟩ | exact ⟨Lent.norm _, rfl⟩ | exact ⟨Lent.whole rfl rfl (by first | rfl | exact List.length_append.symm | exact hlenR | simp) rfl (by first | exact .inl rfl | exact .inr rfl), rfl⟩ | apply And.intro))) rfl .nil) rfl rfl (by rw [hK]; rfl)) ?_
        (refine gM ?_; conv => whnf)
        have hr : itemRows c.items ++ [(Item.mk t (c.version + 1) 0).row] = itemRows (closeAt c.items (-1) (c.version + 1) ++ [Item.mk t (c.version + 1) 0]) := by simp [closeAt, itemRows]
        exact ret0 rfl (congrArg (fun r => V.tup [.agg [.int .i64 (c.version + 1), .int .i64 c.oldest, .sl r false], .int .i64 0]) hr) rfl
      · rw [Nat.zero_add] at h5
        rw [h5] at *
        repeat (first | refine gA ?_ | refine gB ?_ | refine gC rfl ?_ | refine gD rfl ?_ | ((first | refine gE env hN (by kernel_rfl) ?_ | refine gF ?_ | refine gG ?_ | refine gH fun hlen => ?_ | refine gI (by kernel_rfl) ?_ | refine gN rfl ?_ | refine gN (by omega) ?_ | refine gJ rfl ?_ | refine gK (by omega) ?_ | refine gL (by omega) ?_ | refine gK rfl ?_ | refine gO ?_); conv => whnf))
        refine rowAt_of (by simpa using itemRows_get hi) ?_
        conv => whnf
        repeat (first | refine gA ?_ | refine gB ?_ | refine gC rfl ?_ | refine gD rfl ?_ | ((first | refine gE env hN (by kernel_rfl) ?_ | refine gF ?_ | refine gG ?_ | refine gH fun hlen => ?_ | refine gI (by kernel_rfl) ?_ | refine gN rfl ?_ | refine gN (by omega) ?_ | refine gJ rfl ?_ | refine gK (by omega) ?_ | refine gL (by omega) ?_ | refine gK rfl ?_ | refine gO ?_); conv => whnf))
        (refine ⟨_, _, _, callG [] [] [] rfl rfl rfl (by kernel_rfl) (sp5) (by repeat' (first | exact trivial | exact Lent.refl _ | exact Lent.norm _ | apply And.intro)) rfl ⟨rfl, rfl, rfl, rfl, rfl, trivial, rfl, rfl⟩, ?_⟩; conv => whnf)
        repeat (first | refine gA ?_ | refine gB ?_ | refine gC rfl ?_ | refine gD rfl ?_ | ((first | refine gE env hN (by kernel_rfl) ?_ | refine gF ?_ | refine gG ?_ | refine gH fun hlen => ?_ | refine gI (by kernel_rfl) ?_ | refine gN rfl ?_ | refine gN (by omega) ?_ | refine gJ rfl ?_ | refine gK (by omega) ?_ | refine gL (by omega) ?_ | refine gK rfl ?_ | refine gO ?_); conv => whnf))
        refine ⟨⟨rowsSz_cons rfl rowsSz_nil, (List.length_set).symm⟩, hfit, .inl ⟨rfl, rfl, ?_⟩⟩
        conv => whnf
        repeat (first | refine gA ?_ | refine gB ?_ | refine gC rfl ?_ | refine gD rfl ?_ | ((first | refine gE env hN (by kernel_rfl) ?_ | refine gF ?_ | refine gG ?_ | refine gH fun hlen => ?_ | refine gI (by kernel_rfl) ?_ | refine gN rfl ?_ | refine gN (by omega) ?_ | refine gJ rfl ?_ | refine gK (by omega) ?_ | refine gL (by omega) ?_ | refine gK rfl ?_ | refine gO ?_); conv => whnf))
        have hr : (itemRows c.items).set (0 + (i : Int).toNat) [.int .i64 c.items[i].tab.id, .str c.items[i].tab.name, .sl (colRows c.items[i].tab.cols) false, .int .i64 c.items[i].from_, .int .i64 (c.version + 1)] ++ [(Item.mk t (c.version + 1) 0).row] = itemRows (closeAt c.items i (c.version + 1) ++ [Item.mk t (c.version + 1) 0]) := by
          rw [show 0 + (i : Int).toNat = i by omega, itemRows_close hi]; simp [itemRows]
        have hlenR : (itemRows c.items).length + 1 = ((itemRows c.items).set (0 + (i : Int).toNat) [.int .i64 c.items[i].tab.id, .str c.items[i].tab.name, .sl (colRows c.items[i].tab.cols) false, .int .i64 c.items[i].from_, .int .i64 (c.version + 1)] ++ [(Item.mk t (c.version + 1) 0).row]).length := by simp
        refine W.leG (mp := [(4, 4)]) (bo := [11]) (st' := ⟨[(4, .bp 4 0), (5, .int .i64 0)], [(4, [.rows 3 [[.int .i64 (c.version + 1), .int .i64 c.oldest, .sl ((itemRows c.items).set (0 + (i : Int).toNat) [.int .i64 c.items[i].tab.id, .str c.items[i].tab.name, .sl (colRows c.items[i].tab.cols) false, .int .i64 c.items[i].from_, .int .i64 (c.version + 1)] ++ [(Item.mk t (c.version + 1) 0).row]) false]] none])], [4]⟩) (LeG.mk' rfl rfl rfl (by repeat' (first | exact trivial | exact ⟨_, .refl _, rfl⟩ | apply And.intro)) (.cons 4 (b1 := .rows 3 [[.int .i64 (c.version + 1), .int .i64 c.oldest, .sl ((itemRows c.items).set (0 + (i : Int).toNat) [.int .i64 c.items[i].tab.id, .str c.items[i].tab.name, .sl (colRows c.items[i].tab.cols) false, .int .i64 c.items[i].from_, .int .i64 (c.version + 1)] ++ [(Item.mk t (c.version + 1) 0).row]) false]] none) rfl rfl (.rows _ _ _ (by repeat' (first | exact trivial | exact ⟨Lent.refl _, rfl⟩ | exact ⟨Lent.norm _, rfl⟩ | exact ⟨Lent.whole rfl rfl (by first | rfl | exact List.length_append.symm | exact hlenR | simp) rfl (by first | exact .inl rfl | exact .inr rfl), rfl⟩ | apply And.intro))) rfl .nil) rfl rfl (by rw [hK]; rfl)) ?_
        (refine gM ?_; conv => whnf)
        exact ret0 rfl (congrArg (fun r => V.tup [.agg [.int .i64 (c.version + 1), .int .i64 c.oldest, .sl r false], .int .i64 0]) hr) rfl
set_option maxHeartbeats 4000000 in
theorem drop41_spec (c : Coll) (id : Int) : Spec Tryd.prog 42 [.agg c.row, .int .i64 id] [] (.tup [.agg (dropM c id).1.row, .int .i64 (dropM c id).2]) [] := by
  have sp1 := valid41_spec c
  have sp3 := find41_spec c id
  have hcl := itemRows_len c.items
  refine Spec.body env Tryd.func42 rfl (by kernel_rfl) (Nat.le_of_ble_eq_true (by kernel_rfl)) (keysSub rfl) fun Γ hN hK => ?_; have hML : maxLen = 9223372036854775807 := by unfold maxLen; rfl
  repeat (first | refine gA ?_ | refine gB ?_ | refine gC rfl ?_ | refine gD rfl ?_ | ((first | refine gE env hN (by kernel_rfl) ?_ | refine gF ?_ | refine gG ?_ | refine gH fun hlen => ?_ | refine gI (by kernel_rfl) ?_ | refine gN rfl ?_ | refine gN (by omega) ?_ | refine gJ rfl ?_ | refine gK (by omega) ?_ | refine gL (by omega) ?_ | refine gK rfl ?_ | refine gO ?_); conv => whnf))
  cases h1 : collB c with
  | false =>
    rw [h1] at sp1
    (refine ⟨_, _, _, callG [] [] [] rfl rfl rfl (by kernel_rfl) (sp1) (by repeat' (first | exact trivial | exact Lent.refl _ | exact Lent.norm _ | apply And.intro)) rfl ⟨rfl, rfl, rfl, rfl, rfl, trivial, rfl, rfl⟩, ?_⟩; conv => whnf)
    repeat (first | refine gA ?_ | refine gB ?_ | refine gC rfl ?_ | refine gD rfl ?_ | ((first | refine gE env hN (by kernel_rfl) ?_ | refine gF ?_ | refine gG ?_ | refine gH fun hlen => ?_ | refine gI (by kernel_rfl) ?_ | refine gN rfl ?_ | refine gN (by omega) ?_ | refine gJ rfl ?_ | refine gK (by omega) ?_ | refine gL (by omega) ?_ | refine gK rfl ?_ | refine gO ?_ | refine gM ?_); conv => whnf))
    exact ret0 rfl (by rw [show dropM c id = (Coll.zero, 1) by simp [dropM, h1]]; rfl) rfl
  | true =>
    rw [h1] at sp1
    (refine ⟨_, _, _, callG [] [] [] rfl rfl rfl (by kernel_rfl) (sp1) (by repeat' (first | exact trivial | exact Lent.refl _ | exact Lent.norm _ | apply And.intro)) rfl ⟨rfl, rfl, rfl, rfl, rfl, trivial, rfl, rfl⟩, ?_⟩; conv => whnf)
    repeat (first | refine gA ?_ | refine gB ?_ | refine gC rfl ?_ | refine gD rfl ?_ | ((first | refine gE env hN (by kernel_rfl) ?_ | refine gF ?_ | refine gG ?_ | refine gH fun hlen => ?_ | refine gI (by kernel_rfl) ?_ | refine gN rfl ?_ | refine gN (by omega) ?_ | refine gJ rfl ?_ | refine gK (by omega) ?_ | refine gL (by omega) ?_ | refine gK rfl ?_ | refine gO ?_); conv => whnf))
    (refine ⟨_, _, _, callG [] [] [] rfl rfl rfl (by kernel_rfl) (sp3) (by repeat' (first | exact trivial | exact Lent.refl _ | exact Lent.norm _ | apply And.intro)) rfl ⟨rfl, rfl, rfl, rfl, rfl, trivial, rfl, rfl⟩, ?_⟩; conv => whnf)
    have hfew := collB_few h1
    have hv0 : 0 ≤ c.version ∧ c.items.length ≤ 1024 ∧ c.version ≤ 1073741824 := by
      simp only [collB, Bool.and_eq_true, decide_eq_true_eq] at h1
      omega
    have sp4 := copy41_spec c hfew
    rcases ixFrom_cases (hasB id) c.items 0 with ⟨h5, h6⟩ | ⟨i, hi, h5, h6⟩
    · have hm : dropM c id = (Coll.zero, 5) := by simp [dropM, h1, h5]
      rw [hm, h5]
      repeat (first | refine gA ?_ | refine gB ?_ | refine gC rfl ?_ | refine gD rfl ?_ | ((first | refine gE env hN (by kernel_rfl) ?_ | refine gF ?_ | refine gG ?_ | refine gH fun hlen => ?_ | refine gI (by kernel_rfl) ?_ | refine gN rfl ?_ | refine gN (by omega) ?_ | refine gJ rfl ?_ | refine gK (by omega) ?_ | refine gL (by omega) ?_ | refine gK rfl ?_ | refine gO ?_ | refine gM ?_); conv => whnf))
      exact ret0 rfl rfl rfl
    · rw [Nat.zero_add] at h5
      have h7 : ¬ ((i : Int) < 0) := by omega
      by_cases h8 : 1073741824 ≤ c.version
      · have hm : dropM c id = (Coll.zero, 3) := by simp [dropM, h1, h5, h8]
        rw [hm, h5]
        repeat (first | refine gA ?_ | refine gB ?_ | refine gC rfl ?_ | refine gD rfl ?_ | ((first | refine gE env hN (by kernel_rfl) ?_ | refine gF ?_ | refine gG ?_ | refine gH fun hlen => ?_ | refine gI (by kernel_rfl) ?_ | refine gN rfl ?_ | refine gN (by omega) ?_ | refine gJ rfl ?_ | refine gK (by omega) ?_ | refine gL (by omega) ?_ | refine gK rfl ?_ | refine gO ?_ | refine gM ?_); conv => whnf))
        exact ret0 rfl rfl rfl
      · have hm : dropM c id = (⟨c.version + 1, c.oldest, closeAt c.items i (c.version + 1)⟩, 0) := by simp [dropM, h1, h5, h8]
        rw [hm, h5]
        repeat (first | refine gA ?_ | refine gB ?_ | refine gC rfl ?_ | refine gD rfl ?_ | ((first | refine gE env hN (by kernel_rfl) ?_ | refine gF ?_ | refine gG ?_ | refine gH fun hlen => ?_ | refine gI (by kernel_rfl) ?_ | refine gN rfl ?_ | refine gN (by omega) ?_ | refine gJ rfl ?_ | refine gK (by omega) ?_ | refine gL (by omega) ?_ | refine gK rfl ?_ | refine gO ?_); conv => whnf))
        (refine ⟨_, _, _, callG [] [(27, 11)] [] rfl rfl rfl (by kernel_rfl) (sp4) (by repeat' (first | exact trivial | exact Lent.refl _ | exact Lent.norm _ | apply And.intro)) rfl ⟨rfl, rfl, rfl, rfl, rfl, by repeat' (first | exact trivial | rfl | apply And.intro), rfl, rfl⟩, ?_⟩; conv => whnf)
        repeat (first | refine gA ?_ | refine gB ?_ | refine gC rfl ?_ | refine gD rfl ?_ | ((first | refine gE env hN (by kernel_rfl) ?_ | refine gF ?_ | refine gG ?_ | refine gH fun hlen => ?_ | refine gI (by kernel_rfl) ?_ | refine gN rfl ?_ | refine gN (by omega) ?_ | refine gJ rfl ?_ | refine gK (by omega) ?_ | refine gL (by omega) ?_ | refine gK rfl ?_ | refine gO ?_); conv => whnf))
        refine rowAt_of (by simpa using itemRows_get hi) ?_
        conv => whnf
        repeat (first | refine gA ?_ | refine gB ?_ | refine gC rfl ?_ | refine gD rfl ?_ | ((first | refine gE env hN (by kernel_rfl) ?_ | refine gF ?_ | refine gG ?_ | refine gH fun hlen => ?_ | refine gI (by kernel_rfl) ?_ | refine gN rfl ?_ | refine gN (by omega) ?_ | refine gJ rfl ?_ | refine gK (by omega) ?_ | refine gL (by omega) ?_ | refine gK rfl ?_ | refine gO ?_); conv => whnf))
        have hr : (itemRows c.items).set (0 + (i : Int).toNat) [.int .i64 c.items[i].tab.id, .str c.items[i].tab.name, .sl (colRows c.items[i].tab.cols) false, .int .i64 c.items[i].from_, .int .i64 (c.version + 1)] = itemRows (closeAt c.items i (c.version + 1)) := by
          rw [show 0 + (i : Int).toNat = i by omega, itemRows_close hi]
        have hlenR : (itemRows c.items).length = ((itemRows c.items).set (0 + (i : Int).toNat) [.int .i64 c.items[i].tab.id, .str c.items[i].tab.name, .sl (colRows c.items[i].tab.cols) false, .int .i64 c.items[i].from_, .int .i64 (c.version + 1)]).length := List.length_set.symm
        refine W.leG (mp := [(4, 4)]) (bo := [11]) (st' := ⟨[(4, .bp 4 0), (5, .int .i64 0)], [(4, [.rows 3 [[.int .i64 (c.version + 1), .int .i64 c.oldest, .sl ((itemRows c.items).set (0 + (i : Int).toNat) [.int .i64 c.items[i].tab.id, .str c.items[i].tab.name, .sl (colRows c.items[i].tab.cols) false, .int .i64 c.items[i].from_, .int .i64 (c.version + 1)]) false]] none])], [4]⟩) (LeG.mk' rfl rfl rfl (by repeat' (first | exact trivial | exact ⟨_, .refl _, rfl⟩ | apply And.intro)) (.cons 4 (b1 := .rows 3 [[.int .i64 (c.version + 1), .int .i64 c.oldest, .sl ((itemRows c.items).set (0 + (i : Int).toNat) [.int .i64 c.items[i].tab.id, .str c.items[i].tab.name, .sl (colRows c.items[i].tab.cols) false, .int .i64 c.items[i].from_, .int .i64 (c.version + 1)]) false]] none) rfl rfl (.rows _ _ _ (by repeat' (first | exact trivial | exact ⟨Lent.refl _, rfl⟩ | exact ⟨Lent.norm _, rfl⟩ | exact ⟨Lent.whole rfl rfl (by first | rfl | exact List.length_append.symm | exact hlenR | simp) rfl (by first | exact .inl rfl | exact .inr rfl), rfl⟩ | apply And.intro))) rfl .nil) rfl rfl (by rw [hK]; rfl)) ?_
        (refine gM ?_; conv => whnf)
        exact ret0 rfl (congrArg (fun r => V.tup [.agg [.int .i64 (c.version + 1), .int .i64 c.oldest, .sl r false], .int .i64 0]) hr) rfl
end Go.Sx.Sp
namespace Go.Sx.Sp
open Go Go.Sx Go.Proofs
attribute [local irreducible] GoodW
def oldB (o : Int) (x : Item) : Bool := decide (x.until_ ≠ 0 ∧ x.until_ ≤ o)
set_option maxHeartbeats 2000000 in
theorem old_spec (o : Int) (x : Item) : Spec Tryd.prog 77 [.agg x.row, .ro [.int .i64 o] 0] [] (.bool (oldB o x)) [] := by
  refine Spec.body env Tryd.func77 rfl (by kernel_rfl) (Nat.le_of_ble_eq_true (by kernel_rfl)) (keysSub rfl) fun Γ hN hK => ?_; have hML : maxLen = 9223372036854775807 := by unfold maxLen; rfl
  ((repeat (first | refine gA ?_ | refine gB ?_ | refine gC rfl ?_ | refine gD rfl ?_ | ((first | refine gE env hN (by kernel_rfl) ?_ | refine gF ?_ | refine gG ?_ | refine gH fun hlen => ?_ | refine gI (by kernel_rfl) ?_ | refine gN rfl ?_ | refine gN (by omega) ?_ | refine gJ rfl ?_ | refine gK (by omega) ?_ | refine gL (by omega) ?_ | refine gK rfl ?_ | refine gO ?_ | refine gM ?_); conv => whnf))); first | (exact ret0 rfl (congrArg V.bool (by simp [oldB]; omega)) rfl) | ((refine boolRes_split (fun hb => ?_) (fun hb => ?_) <;> conv => whnf) <;> ((repeat (first | refine gA ?_ | refine gB ?_ | refine gC rfl ?_ | refine gD rfl ?_ | ((first | refine gE env hN (by kernel_rfl) ?_ | refine gF ?_ | refine gG ?_ | refine gH fun hlen => ?_ | refine gI (by kernel_rfl) ?_ | refine gN rfl ?_ | refine gN (by omega) ?_ | refine gJ rfl ?_ | refine gK (by omega) ?_ | refine gL (by omega) ?_ | refine gK rfl ?_ | refine gO ?_ | refine gM ?_); conv => whnf))); first | (exact ret0 rfl (congrArg V.bool (by simp [oldB]; omega)) rfl) | ((refine boolRes_split (fun hb => ?_) (fun hb => ?_) <;> conv => whnf) <;> ((repeat (first | refine gA ?_ | refine gB ?_ | refine gC rfl ?_ | refine gD rfl ?_ | ((first | refine gE env hN (by kernel_rfl) ?_ | refine gF ?_ | refine gG ?_ | refine gH fun hlen => ?_ | refine gI (by kernel_rfl) ?_ | refine gN rfl ?_ | refine gN (by omega) ?_ | refine gJ rfl ?_ | refine gK (by omega) ?_ | refine gL (by omega) ?_ | refine gK rfl ?_ | refine gO ?_ | refine gM ?_); conv => whnf))); first | (exact ret0 rfl (congrArg V.bool (by simp [oldB]; omega)) rfl) | ((refine boolRes_split (fun hb => ?_) (fun hb => ?_) <;> conv => whnf) <;> ((repeat (first | refine gA ?_ | refine gB ?_ | refine gC rfl ?_ | refine gD rfl ?_ | ((first | refine gE env hN (by kernel_rfl) ?_ | refine gF ?_ | refine gG ?_ | refine gH fun hlen => ?_ | refine gI (by kernel_rfl) ?_ | refine gN rfl ?_ | refine gN (by omega) ?_ | refine gJ rfl ?_ | refine gK (by omega) ?_ | refine gL (by omega) ?_ | refine gK rfl ?_ | refine gO ?_ | refine gM ?_); conv => whnf))); first | (exact ret0 rfl (congrArg V.bool (by simp [oldB]; omega)) rfl) | ((refine boolRes_split (fun hb => ?_) (fun hb => ?_) <;> conv => whnf) <;> ((repeat (first | refine gA ?_ | refine gB ?_ | refine gC rfl ?_ | refine gD rfl ?_ | ((first | refine gE env hN (by kernel_rfl) ?_ | refine gF ?_ | refine gG ?_ | refine gH fun hlen => ?_ | refine gI (by kernel_rfl) ?_ | refine gN rfl ?_ | refine gN (by omega) ?_ | refine gJ rfl ?_ | refine gK (by omega) ?_ | refine gL (by omega) ?_ | refine gK rfl ?_ | refine gO ?_ | refine gM ?_); conv => whnf))); first | (exact ret0 rfl (congrArg V.bool (by simp [oldB]; omega)) rfl) | ((refine boolRes_split (fun hb => ?_) (fun hb => ?_) <;> conv => whnf) <;> ((repeat (first | refine gA ?_ | refine gB ?_ | refine gC rfl ?_ | refine gD rfl ?_ | ((first | refine gE env hN (by kernel_rfl) ?_ | refine gF ?_ | refine gG ?_ | refine gH fun hlen => ?_ | refine gI (by kernel_rfl) ?_ | refine gN rfl ?_ | refine gN (by omega) ?_ | refine gJ rfl ?_ | refine gK (by omega) ?_ | refine gL (by omega) ?_ | refine gK rfl ?_ | refine gO ?_ | refine gM ?_); conv => whnf))); first | (exact ret0 rfl (congrArg V.bool (by simp [oldB]; omega)) rfl) | ((refine boolRes_split (fun hb => ?_) (fun hb => ?_) <;> conv => whnf) <;> ((repeat (first | refine gA ?_ | refine gB ?_ | refine gC rfl ?_ | refine gD rfl ?_ | ((first | refine gE env hN (by kernel_rfl) ?_ | refine gF ?_ | refine gG ?_ | refine gH fun hlen => ?_ | refine gI (by kernel_rfl) ?_ | refine gN rfl ?_ | refine gN (by omega) ?_ | refine gJ rfl ?_ | refine gK (by omega) ?_ | refine gL (by omega) ?_ | refine gK rfl ?_ | refine gO ?_ | refine gM ?_); conv => whnf))); first | (exact ret0 rfl (congrArg V.bool (by simp [oldB]; omega)) rfl) | ((refine boolRes_split (fun hb => ?_) (fun hb => ?_) <;> conv => whnf) <;> ((repeat (first | refine gA ?_ | refine gB ?_ | refine gC rfl ?_ | refine gD rfl ?_ | ((first | refine gE env hN (by kernel_rfl) ?_ | refine gF ?_ | refine gG ?_ | refine gH fun hlen => ?_ | refine gI (by kernel_rfl) ?_ | refine gN rfl ?_ | refine gN (by omega) ?_ | refine gJ rfl ?_ | refine gK (by omega) ?_ | refine gL (by omega) ?_ | refine gK rfl ?_ | refine gO ?_ | refine gM ?_); conv => whnf))); first | (exact ret0 rfl (congrArg V.bool (by simp [oldB]; omega)) rfl) | ((refine boolRes_split (fun hb => ?_) (fun hb => ?_) <;> conv => whnf) <;> ((repeat (first | refine gA ?_ | refine gB ?_ | refine gC rfl ?_ | refine gD rfl ?_ | ((first | refine gE env hN (by kernel_rfl) ?_ | refine gF ?_ | refine gG ?_ | refine gH fun hlen => ?_ | refine gI (by kernel_rfl) ?_ | refine gN rfl ?_ | refine gN (by omega) ?_ | refine gJ rfl ?_ | refine gK (by omega) ?_ | refine gL (by omega) ?_ | refine gK rfl ?_ | refine gO ?_ | refine gM ?_); conv => whnf))); first | (exact ret0 rfl (congrArg V.bool (by simp [oldB]; omega)) rfl) | ((refine boolRes_split (fun hb => ?_) (fun hb => ?_) <;> conv => whnf) <;> ((repeat (first | refine gA ?_ | refine gB ?_ | refine gC rfl ?_ | refine gD rfl ?_ | ((first | refine gE env hN (by kernel_rfl) ?_ | refine gF ?_ | refine gG ?_ | refine gH fun hlen => ?_ | refine gI (by kernel_rfl) ?_ | refine gN rfl ?_ | refine gN (by omega) ?_ | refine gJ rfl ?_ | refine gK (by omega) ?_ | refine gL (by omega) ?_ | refine gK rfl ?_ | refine gO ?_ | refine gM ?_); conv => whnf))); first | (exact ret0 rfl (congrArg V.bool (by simp [oldB]; omega)) rfl) | ((refine boolRes_split (fun hb => ?_) (fun hb => ?_) <;> conv => whnf) <;> ((repeat (first | refine gA ?_ | refine gB ?_ | refine gC rfl ?_ | refine gD rfl ?_ | ((first | refine gE env hN (by kernel_rfl) ?_ | refine gF ?_ | refine gG ?_ | refine gH fun hlen => ?_ | refine gI (by kernel_rfl) ?_ | refine gN rfl ?_ | refine gN (by omega) ?_ | refine gJ rfl ?_ | refine gK (by omega) ?_ | refine gL (by omega) ?_ | refine gK rfl ?_ | refine gO ?_ | refine gM ?_); conv => whnf))); first | (exact ret0 rfl (congrArg V.bool (by simp [oldB]; omega)) rfl) | ((refine boolRes_split (fun hb => ?_) (fun hb => ?_) <;> conv => whnf) <;> ((repeat (first | refine gA ?_ | refine gB ?_ | refine gC rfl ?_ | refine gD rfl ?_ | ((first | refine gE env hN (by kernel_rfl) ?_ | refine gF ?_ | refine gG ?_ | refine gH fun hlen => ?_ | refine gI (by kernel_rfl) ?_ | refine gN rfl ?_ | refine gN (by omega) ?_ | refine gJ rfl ?_ | refine gK (by omega) ?_ | refine gL (by omega) ?_ | refine gK rfl ?_ | refine gO ?_ | refine gM ?_); conv => whnf))); first | (exact ret0 rfl (congrArg V.bool (by simp [oldB]; omega)) rfl) | ((refine boolRes_split (fun hb => ?_) (fun hb => ?_) <;> conv => whnf) <;> fail))))))))))))))))))))))))
set_option maxHeartbeats 2000000 in
theorem indexOld_spec (o : Int) (l : List Item) : Spec Tryd.prog 104 [.sl (itemRows l) false, .fn 77 [.ro [.int .i64 o] 0]] [] (.int .i64 (ixFrom (oldB o) l 0)) [] := by
  have hrl : (itemRows l).length = l.length := by simp [itemRows]
  refine Spec.body env Tryd.func104 rfl (by kernel_rfl) (Nat.le_of_ble_eq_true (by kernel_rfl)) (keysSub rfl) fun Γ hN hK => ?_; have hML : maxLen = 9223372036854775807 := by unfold maxLen; rfl
  repeat (first | refine gA ?_ | refine gB ?_ | refine gC rfl ?_ | refine gD rfl ?_ | ((first | refine gE env hN (by kernel_rfl) ?_ | refine gF ?_ | refine gG ?_ | refine gH fun hlen => ?_ | refine gI (by kernel_rfl) ?_ | refine gN rfl ?_ | refine gN (by omega) ?_ | refine gJ rfl ?_ | refine gK (by omega) ?_ | refine gL (by omega) ?_ | refine gK rfl ?_ | refine gO ?_); conv => whnf))
  refine W.loopG (fun n st => ∃ k : Nat, k ≤ l.length ∧ ixFrom (oldB o) l 0 = ixFrom (oldB o) (l.drop k) k ∧ n = l.length - k ∧ st = ⟨[(0, .sl (itemRows l) false), (1, .fn 77 [.ro [.int .i64 o] 0]), (7, .int .i64 (itemRows l).length), (8, .int .i64 k)], [], []⟩)
    l.length _ ⟨0, by omega, rfl, by omega, rfl⟩ ⟨[], [], [], LeG.mk' rfl rfl rfl (by repeat' (first | exact trivial | exact ⟨_, .refl _, rfl⟩ | apply And.intro)) .nil rfl rfl (by rw [hK]; rfl)⟩ ?_
  rintro n st ⟨k, hk, hix, rfl, rfl⟩
  repeat (first | refine gA ?_ | refine gB ?_ | refine gC rfl ?_ | refine gD rfl ?_ | ((first | refine gE env hN (by kernel_rfl) ?_ | refine gF ?_ | refine gG ?_ | refine gH fun hlen => ?_ | refine gI (by kernel_rfl) ?_ | refine gN rfl ?_ | refine gN (by omega) ?_ | refine gJ rfl ?_ | refine gK (by omega) ?_ | refine gL (by omega) ?_ | refine gK rfl ?_ | refine gO ?_); conv => whnf))
  refine boolRes_split (fun hb => ?_) (fun hb => ?_) <;> conv => whnf
  · have hlt : k < l.length := by omega
    have hx : (itemRows l)[k]? = some (l[k]).row := by simp [itemRows, hlt]
    have sp := old_spec o l[k]
    rw [List.drop_eq_getElem_cons hlt] at hix
    generalize l[k] = x at *
    simp only [ixFrom] at hix
    repeat (first | refine gA ?_ | refine gB ?_ | refine gC rfl ?_ | refine gD rfl ?_ | ((first | refine gE env hN (by kernel_rfl) ?_ | refine gF ?_ | refine gG ?_ | refine gH fun hlen => ?_ | refine gI (by kernel_rfl) ?_ | refine gN rfl ?_ | refine gN (by omega) ?_ | refine gJ rfl ?_ | refine gK (by omega) ?_ | refine gL (by omega) ?_ | refine gK rfl ?_ | refine gO ?_); conv => whnf))
    refine rowAt_of hx ?_
    conv => whnf
    repeat (first | refine gA ?_ | refine gB ?_ | refine gC rfl ?_ | refine gD rfl ?_ | ((first | refine gE env hN (by kernel_rfl) ?_ | refine gF ?_ | refine gG ?_ | refine gH fun hlen => ?_ | refine gI (by kernel_rfl) ?_ | refine gN rfl ?_ | refine gN (by omega) ?_ | refine gJ rfl ?_ | refine gK (by omega) ?_ | refine gL (by omega) ?_ | refine gK rfl ?_ | refine gO ?_); conv => whnf))
    cases hb2 : (oldB o) x with
    | true =>
      rw [hb2] at sp hix
      (refine ⟨_, _, _, callG [] [] [] rfl rfl rfl (by kernel_rfl) (sp) (by repeat' (first | exact trivial | exact Lent.refl _ | exact Lent.norm _ | apply And.intro)) rfl ⟨rfl, rfl, rfl, rfl, rfl, trivial, rfl, rfl⟩, ?_⟩; conv => whnf)
      repeat (first | refine gA ?_ | refine gB ?_ | refine gC rfl ?_ | refine gD rfl ?_ | ((first | refine gE env hN (by kernel_rfl) ?_ | refine gF ?_ | refine gG ?_ | refine gH fun hlen => ?_ | refine gI (by kernel_rfl) ?_ | refine gN rfl ?_ | refine gN (by omega) ?_ | refine gJ rfl ?_ | refine gK (by omega) ?_ | refine gL (by omega) ?_ | refine gK rfl ?_ | refine gO ?_ | refine gM ?_); conv => whnf))
      exact ret0 rfl (congrArg (V.int .i64) (by rw [hix]; rfl)) rfl
    | false =>
      rw [hb2] at sp hix
      (refine ⟨_, _, _, callG [] [] [] rfl rfl rfl (by kernel_rfl) (sp) (by repeat' (first | exact trivial | exact Lent.refl _ | exact Lent.norm _ | apply And.intro)) rfl ⟨rfl, rfl, rfl, rfl, rfl, trivial, rfl, rfl⟩, ?_⟩; conv => whnf)
      repeat (first | refine gA ?_ | refine gB ?_ | refine gC rfl ?_ | refine gD rfl ?_ | ((first | refine gE env hN (by kernel_rfl) ?_ | refine gF ?_ | refine gG ?_ | refine gH fun hlen => ?_ | refine gI (by kernel_rfl) ?_ | refine gN rfl ?_ | refine gN (by omega) ?_ | refine gJ rfl ?_ | refine gK (by omega) ?_ | refine gL (by omega) ?_ | refine gK rfl ?_ | refine gO ?_); conv => whnf))
      refine ⟨_, _, ?_, ⟨k + 1, by omega, ?_, rfl, rfl⟩, ⟨[], [], [], LeG.mk' rfl rfl rfl (by repeat' (first | exact trivial | exact ⟨_, .refl _, rfl⟩ | apply And.intro)) .nil rfl rfl (by rw [hK]; rfl)⟩⟩
      · omega
      · rw [hix]; rfl
  · have hke : k = l.length := by omega
    rw [hke, List.drop_length] at hix
    repeat (first | refine gA ?_ | refine gB ?_ | refine gC rfl ?_ | refine gD rfl ?_ | ((first | refine gE env hN (by kernel_rfl) ?_ | refine gF ?_ | refine gG ?_ | refine gH fun hlen => ?_ | refine gI (by kernel_rfl) ?_ | refine gN rfl ?_ | refine gN (by omega) ?_ | refine gJ rfl ?_ | refine gK (by omega) ?_ | refine gL (by omega) ?_ | refine gK rfl ?_ | refine gO ?_ | refine gM ?_); conv => whnf))
    exact ret0 rfl (congrArg (V.int .i64) (by rw [hix]; rfl)) rfl
theorem ixFrom_take {α : Type} (p : α → Bool) : ∀ (l : List α) (k i : Nat), i < l.length → ixFrom p l k = ((k + i : Nat) : Int) → (l.take (i + 1)).filter (fun x => !p x) = l.take i
  | [], k, i, hi, h => by simp at hi
  | x :: l, k, i, hi, h => by
    simp only [ixFrom] at h
    by_cases hp : p x = true
    · rw [if_pos hp] at h
      have : i = 0 := by omega
      subst this
      simp [hp]
    · rw [if_neg hp] at h
      cases i with
      | zero =>
        exfalso
        rcases ixFrom_cases p l (k + 1) with ⟨h1, _⟩ | ⟨q, _, h1, _⟩ <;> omega
      | succ i =>
        have h3 := ixFrom_take p l (k + 1) i (by simpa using hi) (by rw [h]; congr 1; omega)
        simp only [List.take_succ_cons, List.filter_cons, show (!p x) = true by simp [hp], if_true]
        rw [h3]
def zeroItem : List V := [.int .i64 0, .str [], .nils, .int .i64 0, .int .i64 0]
def keepM (o : Int) (l : List Item) : List Item := l.filter fun x => !oldB o x
set_option maxHeartbeats 4000000 in
theorem delete_spec (o : Int) (l : List Item) (hlim : l.length ≤ 4294967296) : Spec Tryd.prog 76 [.osl 0 0 0 (itemRows l).length (itemRows l).length, .fn 77 [.ro [.int .i64 o] 0]] [(0, .rows 5 (itemRows l) (some []))] (.osl 0 0 0 (itemRows (keepM o l)).length (itemRows l).length) [(0, .rows 5 (itemRows (keepM o l) ++ List.replicate ((itemRows l).length - (itemRows (keepM o l)).length) zeroItem) (some []))] := by
  have hl := itemRows_len l
  have sp1 := indexOld_spec o l
  refine Spec.body env Tryd.func76 rfl (by kernel_rfl) (Nat.le_of_ble_eq_true (by kernel_rfl)) (keysSub rfl) fun Γ hN hK => ?_; have hML : maxLen = 9223372036854775807 := by unfold maxLen; rfl
  repeat (first | refine gA ?_ | refine gB ?_ | refine gC rfl ?_ | refine gD rfl ?_ | ((first | refine gE env hN (by kernel_rfl) ?_ | refine gF ?_ | refine gG ?_ | refine gH fun hlen => ?_ | refine gI (by kernel_rfl) ?_ | refine gN rfl ?_ | refine gN (by omega) ?_ | refine gJ rfl ?_ | refine gK (by omega) ?_ | refine gL (by omega) ?_ | refine gK rfl ?_ | refine gO ?_); conv => whnf))
  (refine ⟨_, _, _, callG [] [] [0] rfl rfl rfl (by kernel_rfl) (sp1) (by repeat' (first | exact trivial | exact Lent.refl _ | exact Lent.norm _ | exact Lent.whole rfl rfl (by first | rfl | exact List.length_append.symm | exact hlenR | simp) rfl (by first | exact .inl rfl | exact .inr rfl) | apply And.intro)) rfl ⟨rfl, rfl, rfl, rfl, rfl, trivial, rfl, rfl⟩, ?_⟩; conv => whnf)
  repeat (first | refine gA ?_ | refine gB ?_ | refine gC rfl ?_ | refine gD rfl ?_ | ((first | refine gE env hN (by kernel_rfl) ?_ | refine gF ?_ | refine gG ?_ | refine gH fun hlen => ?_ | refine gI (by kernel_rfl) ?_ | refine gN rfl ?_ | refine gN (by omega) ?_ | refine gJ rfl ?_ | refine gK (by omega) ?_ | refine gL (by omega) ?_ | refine gK rfl ?_ | refine gO ?_); conv => whnf))
  rcases ixFrom_cases (oldB o) l 0 with ⟨h1, h2⟩ | ⟨i, hi, h1, h2⟩
  · have hk : keepM o l = l := by
      unfold keepM
      rw [List.filter_eq_self]
      intro x hx
      have := List.any_eq_false.1 h2 x hx
      simpa using this
    have hz : itemRows l ++ List.replicate ((itemRows l).length - (itemRows l).length) zeroItem = itemRows l := by simp
    rw [hk, hz, h1]
    repeat (first | refine gA ?_ | refine gB ?_ | refine gC rfl ?_ | refine gD rfl ?_ | ((first | refine gE env hN (by kernel_rfl) ?_ | refine gF ?_ | refine gG ?_ | refine gH fun hlen => ?_ | refine gI (by kernel_rfl) ?_ | refine gN rfl ?_ | refine gN (by omega) ?_ | refine gJ rfl ?_ | refine gK (by omega) ?_ | refine gL (by omega) ?_ | refine gK rfl ?_ | refine gO ?_ | refine gM ?_); conv => whnf))
    exact retH rfl (.refl _) rfl rfl rfl ⟨rfl, rfl, trivial⟩
  · have hft := ixFrom_take (oldB o) l 0 i hi h1
    rw [Nat.zero_add] at h1
    rw [h1]
    repeat (first | refine gA ?_ | refine gB ?_ | refine gC rfl ?_ | refine gD rfl ?_ | ((first | refine gE env hN (by kernel_rfl) ?_ | refine gF ?_ | refine gG ?_ | refine gH fun hlen => ?_ | refine gI (by kernel_rfl) ?_ | refine gN rfl ?_ | refine gN (by omega) ?_ | refine gJ rfl ?_ | refine gK (by omega) ?_ | refine gL (by omega) ?_ | refine gK rfl ?_ | refine gO ?_); conv => whnf))
    refine W.loopG (fun n st => ∃ (j q : Nat) (R : List Item), j ≤ l.length ∧ q < j ∧ q = (keepM o (l.take j)).length ∧ R.length = l.length ∧ R.take q = keepM o (l.take j) ∧ R.drop j = l.drop j ∧ n = l.length - j ∧ st = ⟨[(0, .osl 0 0 0 (itemRows l).length (itemRows l).length), (1, .fn 77 [.ro [.int .i64 o] 0]), (5, .int .i64 q), (6, .int .i64 j)], [(0, [.rows 5 (itemRows R) (some [])])], [0]⟩)
      (l.length - (i + 1)) _ ⟨i + 1, i, l, by omega, by omega, by unfold keepM; rw [hft]; simp; omega, rfl, by unfold keepM; rw [hft], rfl, rfl, rfl⟩ ⟨[(0, 0)], [], [], LeG.mk' rfl rfl rfl (by repeat' (first | exact trivial | exact ⟨_, .refl _, rfl⟩ | apply And.intro)) (.cons 0 rfl rfl (.refl _) rfl .nil) rfl rfl (by rw [hK]; rfl)⟩ ?_
    rintro n st ⟨j, q, R, hj, hqj, hq, hrl, htk, hdr, rfl, rfl⟩
    have hRl := itemRows_len R
    repeat (first | refine gA ?_ | refine gB ?_ | refine gC rfl ?_ | refine gD rfl ?_ | ((first | refine gE env hN (by kernel_rfl) ?_ | refine gF ?_ | refine gG ?_ | refine gH fun hlen => ?_ | refine gI (by kernel_rfl) ?_ | refine gN rfl ?_ | refine gN (by omega) ?_ | refine gJ rfl ?_ | refine gK (by omega) ?_ | refine gL (by omega) ?_ | refine gK rfl ?_ | refine gO ?_); conv => whnf))
    refine boolRes_split (fun hb => ?_) (fun hb => ?_) <;> conv => whnf
    · have hlt : j < l.length := by omega
      have hlk : (keepM o (l.take (j + 1))) = if oldB o l[j] = true then keepM o (l.take j) else keepM o (l.take j) ++ [l[j]] := by
        unfold keepM
        rw [List.take_succ_eq_append_getElem hlt, List.filter_append]
        by_cases h : oldB o l[j] = true <;> simp [h]
      have hget : (itemRows R)[j]? = some l[j].row := by
        have h3 : (R.drop j)[0]? = (l.drop j)[0]? := by rw [hdr]
        simp only [List.getElem?_drop, Nat.add_zero] at h3
        have hjR : j < R.length := by omega
        rw [List.getElem?_eq_getElem hlt, List.getElem?_eq_getElem hjR] at h3
        rw [itemRows_get hjR, Option.some.inj h3]
      have hdr2 : R.drop (j + 1) = l.drop (j + 1) := by
        have h3 := congrArg (List.drop 1) hdr
        simpa [List.drop_drop] using h3
      have sp2 := old_spec o l[j]
      generalize l[j] = x at *
      repeat (first | refine gA ?_ | refine gB ?_ | refine gC rfl ?_ | refine gD rfl ?_ | ((first | refine gE env hN (by kernel_rfl) ?_ | refine gF ?_ | refine gG ?_ | refine gH fun hlen => ?_ | refine gI (by kernel_rfl) ?_ | refine gN rfl ?_ | refine gN (by omega) ?_ | refine gJ rfl ?_ | refine gK (by omega) ?_ | refine gL (by omega) ?_ | refine gK rfl ?_ | refine gO ?_); conv => whnf))
      refine rowAt_of (by simpa using hget) ?_
      conv => whnf
      repeat (first | refine gA ?_ | refine gB ?_ | refine gC rfl ?_ | refine gD rfl ?_ | ((first | refine gE env hN (by kernel_rfl) ?_ | refine gF ?_ | refine gG ?_ | refine gH fun hlen => ?_ | refine gI (by kernel_rfl) ?_ | refine gN rfl ?_ | refine gN (by omega) ?_ | refine gJ rfl ?_ | refine gK (by omega) ?_ | refine gL (by omega) ?_ | refine gK rfl ?_ | refine gO ?_); conv => whnf))
      cases h3 : oldB o x with
      | true =>
        rw [h3] at sp2 hlk
        rw [if_pos rfl] at hlk
        (refine ⟨_, _, _, callG [] [] [] rfl rfl rfl (by kernel_rfl) (sp2) (by repeat' (first | exact trivial | exact Lent.refl _ | exact Lent.norm _ | apply And.intro)) rfl ⟨rfl, rfl, rfl, rfl, rfl, trivial, rfl, rfl⟩, ?_⟩; conv => whnf)
        repeat (first | refine gA ?_ | refine gB ?_ | refine gC rfl ?_ | refine gD rfl ?_ | ((first | refine gE env hN (by kernel_rfl) ?_ | refine gF ?_ | refine gG ?_ | refine gH fun hlen => ?_ | refine gI (by kernel_rfl) ?_ | refine gN rfl ?_ | refine gN (by omega) ?_ | refine gJ rfl ?_ | refine gK (by omega) ?_ | refine gL (by omega) ?_ | refine gK rfl ?_ | refine gO ?_); conv => whnf))
        refine ⟨_, _, ?_, ⟨j + 1, q, R, by omega, by omega, by rw [hlk]; exact hq, hrl, by rw [hlk]; exact htk, hdr2, rfl, rfl⟩, ⟨[(0, 0)], [], [], LeG.mk' rfl rfl rfl (by repeat' (first | exact trivial | exact ⟨_, .refl _, rfl⟩ | apply And.intro)) (.cons 0 rfl rfl (.refl _) rfl .nil) rfl rfl (by rw [hK]; rfl)⟩⟩
        omega
      | false =>
        rw [h3] at sp2 hlk
        rw [if_neg (by simp)] at hlk
        (refine ⟨_, _, _, callG [] [] [] rfl rfl rfl (by kernel_rfl) (sp2) (by repeat' (first | exact trivial | exact Lent.refl _ | exact Lent.norm _ | apply And.intro)) rfl ⟨rfl, rfl, rfl, rfl, rfl, trivial, rfl, rfl⟩, ?_⟩; conv => whnf)
        repeat (first | refine gA ?_ | refine gB ?_ | refine gC rfl ?_ | refine gD rfl ?_ | ((first | refine gE env hN (by kernel_rfl) ?_ | refine gF ?_ | refine gG ?_ | refine gH fun hlen => ?_ | refine gI (by kernel_rfl) ?_ | refine gN rfl ?_ | refine gN (by omega) ?_ | refine gJ rfl ?_ | refine gK (by omega) ?_ | refine gL (by omega) ?_ | refine gK rfl ?_ | refine gO ?_); conv => whnf))
        have hqR : q < R.length := by omega
        have hq2 := itemRows_get hqR
        generalize R[q] = y at *
        refine rowAt_of (r := y.row) (by simpa using hq2) ?_
        conv => whnf
        repeat (first | refine gA ?_ | refine gB ?_ | refine gC rfl ?_ | refine gD rfl ?_ | ((first | refine gE env hN (by kernel_rfl) ?_ | refine gF ?_ | refine gG ?_ | refine gH fun hlen => ?_ | refine gI (by kernel_rfl) ?_ | refine gN rfl ?_ | refine gN (by omega) ?_ | refine gJ rfl ?_ | refine gK (by omega) ?_ | refine gL (by omega) ?_ | refine gK rfl ?_ | refine gO ?_); conv => whnf))
        have hset : (itemRows R).set (0 + (q : Int).toNat) x.row = itemRows (R.set q x) := by
          rw [show 0 + (q : Int).toNat = q by omega]; simp [itemRows, List.map_set]
        refine ⟨_, _, ?_, ⟨j + 1, q + 1, R.set q x, by omega, by omega, by rw [hlk]; simp; omega, by simp; omega, by
          rw [hlk, ← htk, List.take_succ_eq_append_getElem (by simpa using hqR), List.getElem_set_self, List.take_set, List.set_eq_of_length_le (by simp; omega)], by rw [List.drop_set_of_lt (by omega)]; exact hdr2, rfl, rfl⟩, [(0, 0)], [], [], LeG.mk' rfl rfl rfl (by repeat' (first | exact trivial | exact ⟨_, .refl _, rfl⟩ | apply And.intro)) (.cons 0 rfl rfl (.refl _) (congrArg (fun r => [Blk.rows 5 r (some [])]) hset.symm) .nil) rfl rfl (by rw [hK]; rfl)⟩
        omega
    · have hje : j = l.length := by omega
      rw [hje, List.take_length] at hq htk
      have hkl : (itemRows (keepM o l)).length = q := by rw [itemRows_len, hq]
      have hblk : itemRows (keepM o l) ++ List.replicate ((itemRows l).length - q) zeroItem = (itemRows R).take (0 + (q : Int).toNat) ++ (List.replicate (((itemRows l).length : Int).toNat - (q : Int).toNat) zeroItem ++ (itemRows R).drop (0 + (q : Int).toNat + (((itemRows l).length : Int).toNat - (q : Int).toNat))) := by
        have h1 : 0 + (q : Int).toNat = q := by omega
        have h2 : ((itemRows l).length : Int).toNat = (itemRows l).length := by omega
        have h3 : (itemRows R).drop (q + ((itemRows l).length - q)) = [] := List.drop_eq_nil_of_le (by omega)
        have h4 : (itemRows R).take q = itemRows (R.take q) := by simp [itemRows]
        simp only [h2, Int.toNat_natCast, Nat.zero_add, h3, h4, htk, List.append_nil]
      rw [hkl, hblk]
      repeat (first | refine gA ?_ | refine gB ?_ | refine gC rfl ?_ | refine gD rfl ?_ | ((first | refine gE env hN (by kernel_rfl) ?_ | refine gF ?_ | refine gG ?_ | refine gH fun hlen => ?_ | refine gI (by kernel_rfl) ?_ | refine gN rfl ?_ | refine gN (by omega) ?_ | refine gJ rfl ?_ | refine gK (by omega) ?_ | refine gL (by omega) ?_ | refine gK rfl ?_ | refine gO ?_); conv => whnf))
      refine ⟨by simp; omega, ⟨by omega, by omega, by omega⟩, ?_⟩
      conv => whnf
      repeat (first | refine gA ?_ | refine gB ?_ | refine gC rfl ?_ | refine gD rfl ?_ | ((first | refine gE env hN (by kernel_rfl) ?_ | refine gF ?_ | refine gG ?_ | refine gH fun hlen => ?_ | refine gI (by kernel_rfl) ?_ | refine gN rfl ?_ | refine gN (by omega) ?_ | refine gJ rfl ?_ | refine gK (by omega) ?_ | refine gL (by omega) ?_ | refine gK rfl ?_ | refine gO ?_); conv => whnf))
      (refine gM ?_; conv => whnf)
      exact retH rfl (.refl _) rfl rfl rfl ⟨rfl, rfl, trivial⟩
end Go.Sx.Sp
namespace Go.Sx.Sp
open Go Go.Sx Go.Proofs
attribute [local irreducible] GoodW
def vacM (c : Coll) (o : Int) : Coll × Int :=
  if collB c = true then
    if o < c.oldest ∨ c.version < o then (Coll.zero, 23)
    else (⟨c.version, o, keepM o c.items⟩, 0)
  else (Coll.zero, 1)
theorem keepM_len (o : Int) (l : List Item) : (keepM o l).length ≤ l.length := List.length_filter_le _ _
set_option maxHeartbeats 4000000 in
theorem vacuum_spec (c : Coll) (o : Int) : Spec Tryd.prog 36 [.agg c.row, .int .i64 o] [] (.tup [.agg (vacM c o).1.row, .int .i64 (vacM c o).2]) [] := by
  have sp1 := snapValid_spec c
  have hcl := itemRows_len c.items
  refine Spec.body env Tryd.func36 rfl (by kernel_rfl) (Nat.le_of_ble_eq_true (by kernel_rfl)) (keysSub rfl) fun Γ hN hK => ?_; have hML : maxLen = 9223372036854775807 := by unfold maxLen; rfl
  refine gA ?_
  (refine gE env hN (by kernel_rfl) ?_; conv => whnf)
  refine W.leG (mp := [(2, 2), (4, 4)]) (bo := [3]) (st' := ⟨[(2, .bp 2 0), (3, .ro [.int .i64 o] 0), (4, .bp 4 0), (5, .int .i64 0)], [(2, [.rows 3 [c.row] none]), (4, [.rows 3 [[.int .i64 0, .int .i64 0, .nils]] none])], [2, 4]⟩)
    (LeG.mk' rfl rfl rfl ⟨⟨_, .refl _, rfl⟩, ⟨_, .bp 3 0 1 [.int .i64 o] none rfl rfl (by simp) (.inr rfl), rfl⟩, ⟨_, .refl _, rfl⟩, ⟨_, .refl _, rfl⟩, trivial⟩ (.cons 2 rfl rfl (.refl _) rfl (.cons 4 rfl rfl (.refl _) rfl .nil)) rfl rfl (by rw [hK]; rfl)) ?_
  cases h1 : collB c with
  | false =>
    rw [h1] at sp1
    repeat (first | refine gA ?_ | refine gB ?_ | refine gC rfl ?_ | refine gD rfl ?_ | ((first | refine gE env hN (by kernel_rfl) ?_ | refine gF ?_ | refine gG ?_ | refine gH fun hlen => ?_ | refine gI (by kernel_rfl) ?_ | refine gN rfl ?_ | refine gN (by omega) ?_ | refine gJ rfl ?_ | refine gK (by omega) ?_ | refine gL (by omega) ?_ | refine gK rfl ?_ | refine gO ?_); conv => whnf))
    (refine ⟨_, _, _, callG [] [] [] rfl rfl rfl (by kernel_rfl) (sp1) (by repeat' (first | exact trivial | exact Lent.refl _ | exact Lent.norm _ | apply And.intro)) rfl ⟨rfl, rfl, rfl, rfl, rfl, trivial, rfl, rfl⟩, ?_⟩; conv => whnf)
    repeat (first | refine gA ?_ | refine gB ?_ | refine gC rfl ?_ | refine gD rfl ?_ | ((first | refine gE env hN (by kernel_rfl) ?_ | refine gF ?_ | refine gG ?_ | refine gH fun hlen => ?_ | refine gI (by kernel_rfl) ?_ | refine gN rfl ?_ | refine gN (by omega) ?_ | refine gJ rfl ?_ | refine gK (by omega) ?_ | refine gL (by omega) ?_ | refine gK rfl ?_ | refine gO ?_ | refine gM ?_); conv => whnf))
    exact ret0 rfl (by rw [show vacM c o = (Coll.zero, 1) by simp [vacM, h1]]; rfl) rfl
  | true =>
    rw [h1] at sp1
    repeat (first | refine gA ?_ | refine gB ?_ | refine gC rfl ?_ | refine gD rfl ?_ | ((first | refine gE env hN (by kernel_rfl) ?_ | refine gF ?_ | refine gG ?_ | refine gH fun hlen => ?_ | refine gI (by kernel_rfl) ?_ | refine gN rfl ?_ | refine gN (by omega) ?_ | refine gJ rfl ?_ | refine gK (by omega) ?_ | refine gL (by omega) ?_ | refine gK rfl ?_ | refine gO ?_); conv => whnf))
    (refine ⟨_, _, _, callG [] [] [] rfl rfl rfl (by kernel_rfl) (sp1) (by repeat' (first | exact trivial | exact Lent.refl _ | exact Lent.norm _ | apply And.intro)) rfl ⟨rfl, rfl, rfl, rfl, rfl, trivial, rfl, rfl⟩, ?_⟩; conv => whnf)
    repeat (first | refine gA ?_ | refine gB ?_ | refine gC rfl ?_ | refine gD rfl ?_ | ((first | refine gE env hN (by kernel_rfl) ?_ | refine gF ?_ | refine gG ?_ | refine gH fun hlen => ?_ | refine gI (by kernel_rfl) ?_ | refine gN rfl ?_ | refine gN (by omega) ?_ | refine gJ rfl ?_ | refine gK (by omega) ?_ | refine gL (by omega) ?_ | refine gK rfl ?_ | refine gO ?_); conv => whnf))
    refine boolRes_split (fun hb => ?_) (fun hb => ?_) <;> conv => whnf
    · repeat (first | refine gA ?_ | refine gB ?_ | refine gC rfl ?_ | refine gD rfl ?_ | ((first | refine gE env hN (by kernel_rfl) ?_ | refine gF ?_ | refine gG ?_ | refine gH fun hlen => ?_ | refine gI (by kernel_rfl) ?_ | refine gN rfl ?_ | refine gN (by omega) ?_ | refine gJ rfl ?_ | refine gK (by omega) ?_ | refine gL (by omega) ?_ | refine gK rfl ?_ | refine gO ?_ | refine gM ?_); conv => whnf))
      exact ret0 rfl (by rw [show vacM c o = (Coll.zero, 23) by simp [vacM, h1, hb]]; rfl) rfl
    repeat (first | refine gA ?_ | refine gB ?_ | refine gC rfl ?_ | refine gD rfl ?_ | ((first | refine gE env hN (by kernel_rfl) ?_ | refine gF ?_ | refine gG ?_ | refine gH fun hlen => ?_ | refine gI (by kernel_rfl) ?_ | refine gN rfl ?_ | refine gN (by omega) ?_ | refine gJ rfl ?_ | refine gK (by omega) ?_ | refine gL (by omega) ?_ | refine gK rfl ?_ | refine gO ?_); conv => whnf))
    refine boolRes_split (fun hb => ?_) (fun hb => ?_) <;> conv => whnf
    · repeat (first | refine gA ?_ | refine gB ?_ | refine gC rfl ?_ | refine gD rfl ?_ | ((first | refine gE env hN (by kernel_rfl) ?_ | refine gF ?_ | refine gG ?_ | refine gH fun hlen => ?_ | refine gI (by kernel_rfl) ?_ | refine gN rfl ?_ | refine gN (by omega) ?_ | refine gJ rfl ?_ | refine gK (by omega) ?_ | refine gL (by omega) ?_ | refine gK rfl ?_ | refine gO ?_ | refine gM ?_); conv => whnf))
      exact ret0 rfl (by rw [show vacM c o = (Coll.zero, 23) by simp [vacM, h1, hb]]; rfl) rfl
    have hm : vacM c o = (⟨c.version, o, keepM o c.items⟩, 0) := by
      have : ¬ (o < c.oldest ∨ c.version < o) := by omega
      simp [vacM, h1, this]
    rw [hm]
    have hfew := collB_few h1
    have sp4 := snapOwn_spec c hfew
    have sp5 := delete_spec o c.items hfew.1
    have hkl := keepM_len o c.items
    have hkr := itemRows_len (keepM o c.items)
    repeat (first | refine gA ?_ | refine gB ?_ | refine gC rfl ?_ | refine gD rfl ?_ | ((first | refine gE env hN (by kernel_rfl) ?_ | refine gF ?_ | refine gG ?_ | refine gH fun hlen => ?_ | refine gI (by kernel_rfl) ?_ | refine gN rfl ?_ | refine gN (by omega) ?_ | refine gJ rfl ?_ | refine gK (by omega) ?_ | refine gL (by omega) ?_ | refine gK rfl ?_ | refine gO ?_); conv => whnf))
    (refine ⟨_, _, _, callG [] [(7, 11)] [] rfl rfl rfl (by kernel_rfl) (sp4) (by repeat' (first | exact trivial | exact Lent.refl _ | exact Lent.norm _ | apply And.intro)) rfl ⟨rfl, rfl, rfl, rfl, rfl, by repeat' (first | exact trivial | rfl | apply And.intro), rfl, rfl⟩, ?_⟩; conv => whnf)
    repeat (first | refine gA ?_ | refine gB ?_ | refine gC rfl ?_ | refine gD rfl ?_ | ((first | refine gE env hN (by kernel_rfl) ?_ | refine gF ?_ | refine gG ?_ | refine gH fun hlen => ?_ | refine gI (by kernel_rfl) ?_ | refine gN rfl ?_ | refine gN (by omega) ?_ | refine gJ rfl ?_ | refine gK (by omega) ?_ | refine gL (by omega) ?_ | refine gK rfl ?_ | refine gO ?_); conv => whnf))
    (refine ⟨_, _, _, callG [(0, 11)] [] [] rfl rfl rfl (by kernel_rfl) (sp5) (by repeat' (first | exact trivial | exact Lent.refl _ | exact Lent.norm _ | apply And.intro)) rfl ⟨rfl, rfl, rfl, rfl, rfl, by repeat' (first | exact trivial | rfl | apply And.intro), rfl, rfl⟩, ?_⟩; conv => whnf)
    repeat (first | refine gA ?_ | refine gB ?_ | refine gC rfl ?_ | refine gD rfl ?_ | ((first | refine gE env hN (by kernel_rfl) ?_ | refine gF ?_ | refine gG ?_ | refine gH fun hlen => ?_ | refine gI (by kernel_rfl) ?_ | refine gN rfl ?_ | refine gN (by omega) ?_ | refine gJ rfl ?_ | refine gK (by omega) ?_ | refine gL (by omega) ?_ | refine gK rfl ?_ | refine gO ?_); conv => whnf))
    have hlenR : (itemRows c.items).length = (itemRows (keepM o c.items) ++ List.replicate ((itemRows c.items).length - (itemRows (keepM o c.items)).length) zeroItem).length := by
      simp; omega
    have htk : ((itemRows (keepM o c.items) ++ List.replicate ((itemRows c.items).length - (itemRows (keepM o c.items)).length) zeroItem).drop 0).take (itemRows (keepM o c.items)).length = itemRows (keepM o c.items) := by
      rw [List.drop_zero, List.take_left]
    refine W.leG (mp := [(4, 4)]) (bo := [11]) (st' := ⟨[(4, .bp 4 0), (5, .int .i64 0)], [(4, [.rows 3 [[.int .i64 c.version, .int .i64 o, .sl (((itemRows (keepM o c.items) ++ List.replicate ((itemRows c.items).length - (itemRows (keepM o c.items)).length) zeroItem).drop 0).take (itemRows (keepM o c.items)).length) false]] none])], [4]⟩) (LeG.mk' rfl rfl rfl (by repeat' (first | exact trivial | exact ⟨_, .refl _, rfl⟩ | apply And.intro)) (.cons 4 (b1 := .rows 3 [[.int .i64 c.version, .int .i64 o, .sl (((itemRows (keepM o c.items) ++ List.replicate ((itemRows c.items).length - (itemRows (keepM o c.items)).length) zeroItem).drop 0).take (itemRows (keepM o c.items)).length) false]] none) rfl rfl (.rows _ _ _ ⟨⟨⟨.refl _, rfl⟩, ⟨.refl _, rfl⟩, ⟨.osl 11 0 _ _ 5 _ (some []) rfl rfl hlenR (.inl rfl), rfl⟩, trivial⟩, trivial⟩) rfl .nil) rfl rfl (by rw [hK]; rfl)) ?_
    (refine gM ?_; conv => whnf)
    exact ret0 rfl (congrArg (fun r => V.tup [.agg [.int .i64 c.version, .int .i64 o, .sl r false], .int .i64 0]) htk) rfl
end Go.Sx.Sp
namespace Go.Sx.Sp
open Go Go.Sx Go.Proofs
attribute [local irreducible] GoodW
set_option maxHeartbeats 4000000 in
theorem vacuum41_spec (c : Coll) (o : Int) : Spec Tryd.prog 39 [.agg c.row, .int .i64 o] [] (.tup [.agg (vacM c o).1.row, .int .i64 (vacM c o).2]) [] := by
  have sp1 := valid41_spec c
  have hcl := itemRows_len c.items
  refine Spec.body env Tryd.func39 rfl (by kernel_rfl) (Nat.le_of_ble_eq_true (by kernel_rfl)) (keysSub rfl) fun Γ hN hK => ?_; have hML : maxLen = 9223372036854775807 := by unfold maxLen; rfl
  cases h1 : collB c with
  | false =>
    rw [h1] at sp1
    repeat (first | refine gA ?_ | refine gB ?_ | refine gC rfl ?_ | refine gD rfl ?_ | ((first | refine gE env hN (by kernel_rfl) ?_ | refine gF ?_ | refine gG ?_ | refine gH fun hlen => ?_ | refine gI (by kernel_rfl) ?_ | refine gN rfl ?_ | refine gN (by omega) ?_ | refine gJ rfl ?_ | refine gK (by omega) ?_ | refine gL (by omega) ?_ | refine gK rfl ?_ | refine gO ?_); conv => whnf))
    (refine ⟨_, _, _, callG [] [] [] rfl rfl rfl (by kernel_rfl) (sp1) (by repeat' (first | exact trivial | exact Lent.refl _ | exact Lent.norm _ | apply And.intro)) rfl ⟨rfl, rfl, rfl, rfl, rfl, trivial, rfl, rfl⟩, ?_⟩; conv => whnf)
    repeat (first | refine gA ?_ | refine gB ?_ | refine gC rfl ?_ | refine gD rfl ?_ | ((first | refine gE env hN (by kernel_rfl) ?_ | refine gF ?_ | refine gG ?_ | refine gH fun hlen => ?_ | refine gI (by kernel_rfl) ?_ | refine gN rfl ?_ | refine gN (by omega) ?_ | refine gJ rfl ?_ | refine gK (by omega) ?_ | refine gL (by omega) ?_ | refine gK rfl ?_ | refine gO ?_ | refine gM ?_); conv => whnf))
    exact ret0 rfl (by rw [show vacM c o = (Coll.zero, 1) by simp [vacM, h1]]; rfl) rfl
  | true =>
    rw [h1] at sp1
    repeat (first | refine gA ?_ | refine gB ?_ | refine gC rfl ?_ | refine gD rfl ?_ | ((first | refine gE env hN (by kernel_rfl) ?_ | refine gF ?_ | refine gG ?_ | refine gH fun hlen => ?_ | refine gI (by kernel_rfl) ?_ | refine gN rfl ?_ | refine gN (by omega) ?_ | refine gJ rfl ?_ | refine gK (by omega) ?_ | refine gL (by omega) ?_ | refine gK rfl ?_ | refine gO ?_); conv => whnf))
    (refine ⟨_, _, _, callG [] [] [] rfl rfl rfl (by kernel_rfl) (sp1) (by repeat' (first | exact trivial | exact Lent.refl _ | exact Lent.norm _ | apply And.intro)) rfl ⟨rfl, rfl, rfl, rfl, rfl, trivial, rfl, rfl⟩, ?_⟩; conv => whnf)
    repeat (first | refine gA ?_ | refine gB ?_ | refine gC rfl ?_ | refine gD rfl ?_ | ((first | refine gE env hN (by kernel_rfl) ?_ | refine gF ?_ | refine gG ?_ | refine gH fun hlen => ?_ | refine gI (by kernel_rfl) ?_ | refine gN rfl ?_ | refine gN (by omega) ?_ | refine gJ rfl ?_ | refine gK (by omega) ?_ | refine gL (by omega) ?_ | refine gK rfl ?_ | refine gO ?_); conv => whnf))
    refine boolRes_split (fun hb => ?_) (fun hb => ?_) <;> conv => whnf
    · repeat (first | refine gA ?_ | refine gB ?_ | refine gC rfl ?_ | refine gD rfl ?_ | ((first | refine gE env hN (by kernel_rfl) ?_ | refine gF ?_ | refine gG ?_ | refine gH fun hlen => ?_ | refine gI (by kernel_rfl) ?_ | refine gN rfl ?_ | refine gN (by omega) ?_ | refine gJ rfl ?_ | refine gK (by omega) ?_ | refine gL (by omega) ?_ | refine gK rfl ?_ | refine gO ?_ | refine gM ?_); conv => whnf))
      exact ret0 rfl (by rw [show vacM c o = (Coll.zero, 23) by simp [vacM, h1, hb]]; rfl) rfl
    repeat (first | refine gA ?_ | refine gB ?_ | refine gC rfl ?_ | refine gD rfl ?_ | ((first | refine gE env hN (by kernel_rfl) ?_ | refine gF ?_ | refine gG ?_ | refine gH fun hlen => ?_ | refine gI (by kernel_rfl) ?_ | refine gN rfl ?_ | refine gN (by omega) ?_ | refine gJ rfl ?_ | refine gK (by omega) ?_ | refine gL (by omega) ?_ | refine gK rfl ?_ | refine gO ?_); conv => whnf))
    refine boolRes_split (fun hb => ?_) (fun hb => ?_) <;> conv => whnf
    · repeat (first | refine gA ?_ | refine gB ?_ | refine gC rfl ?_ | refine gD rfl ?_ | ((first | refine gE env hN (by kernel_rfl) ?_ | refine gF ?_ | refine gG ?_ | refine gH fun hlen => ?_ | refine gI (by kernel_rfl) ?_ | refine gN rfl ?_ | refine gN (by omega) ?_ | refine gJ rfl ?_ | refine gK (by omega) ?_ | refine gL (by omega) ?_ | refine gK rfl ?_ | refine gO ?_ | refine gM ?_); conv => whnf))
      exact ret0 rfl (by rw [show vacM c o = (Coll.zero, 23) by simp [vacM, h1, hb]]; rfl) rfl
    have hm : vacM c o = (⟨c.version, o, keepM o c.items⟩, 0) := by
      have : ¬ (o < c.oldest ∨ c.version < o) := by omega
      simp [vacM, h1, this]
    rw [hm]
    have hfew := collB_few h1
    have sp4 := copy41_spec c hfew
    have hf1 := hfew.1
    repeat (first | refine gA ?_ | refine gB ?_ | refine gC rfl ?_ | refine gD rfl ?_ | ((first | refine gE env hN (by kernel_rfl) ?_ | refine gF ?_ | refine gG ?_ | refine gH fun hlen => ?_ | refine gI (by kernel_rfl) ?_ | refine gN rfl ?_ | refine gN (by omega) ?_ | refine gJ rfl ?_ | refine gK (by omega) ?_ | refine gL (by omega) ?_ | refine gK rfl ?_ | refine gO ?_); conv => whnf))
    (refine ⟨_, _, _, callG [] [(27, 11)] [] rfl rfl rfl (by kernel_rfl) (sp4) (by repeat' (first | exact trivial | exact Lent.refl _ | exact Lent.norm _ | apply And.intro)) rfl ⟨rfl, rfl, rfl, rfl, rfl, by repeat' (first | exact trivial | rfl | apply And.intro), rfl, rfl⟩, ?_⟩; conv => whnf)
    repeat (first | refine gA ?_ | refine gB ?_ | refine gC rfl ?_ | refine gD rfl ?_ | ((first | refine gE env hN (by kernel_rfl) ?_ | refine gF ?_ | refine gG ?_ | refine gH fun hlen => ?_ | refine gI (by kernel_rfl) ?_ | refine gN rfl ?_ | refine gN (by omega) ?_ | refine gJ rfl ?_ | refine gK (by omega) ?_ | refine gL (by omega) ?_ | refine gK rfl ?_ | refine gO ?_); conv => whnf))
    refine W.ownCell 6 0 2 51 5 rfl rfl rfl rfl rfl ?_
    refine W.loopG (fun n st => ∃ k : Nat, k ≤ c.items.length ∧ n = c.items.length - k ∧ st = ⟨[(1, .int .i64 o), (4, .bp 4 0), (6, .bp 6 0), (32, .osl 11 0 0 (itemRows c.items).length (itemRows c.items).length), (33, .int .i64 (itemRows c.items).length), (34, .int .i64 k)], [(4, [.rows 3 [[.int .i64 0, .int .i64 0, .nils]] none]), (6, [.rows 3 [[.int .i64 c.version, .int .i64 o, .osl 51 0 0 (itemRows (keepM o (c.items.take k))).length (itemRows (keepM o (c.items.take k))).length]] none]), (11, [.rows 5 (itemRows c.items) (some [])]), (51, [.rows 5 (itemRows (keepM o (c.items.take k))) (some [])])], [4, 6, 11, 51]⟩)
      c.items.length _ ⟨0, Nat.zero_le _, rfl, rfl⟩ ⟨[(4, 4), (6, 6), (11, 11), (51, 51)], [], [], LeG.mk' rfl rfl rfl (by repeat' (first | exact trivial | exact ⟨_, .refl _, rfl⟩ | apply And.intro)) (.cons 4 rfl rfl (.refl _) rfl (.cons 6 rfl rfl (.refl _) rfl (.cons 11 rfl rfl (.refl _) rfl (.cons 51 rfl rfl (.refl _) rfl .nil)))) rfl rfl (by rw [hK]; rfl)⟩ ?_
    rintro n st ⟨k, hk, rfl, rfl⟩
    repeat (first | refine gA ?_ | refine gB ?_ | refine gC rfl ?_ | refine gD rfl ?_ | ((first | refine gE env hN (by kernel_rfl) ?_ | refine gF ?_ | refine gG ?_ | refine gH fun hlen => ?_ | refine gI (by kernel_rfl) ?_ | refine gN rfl ?_ | refine gN (by omega) ?_ | refine gJ rfl ?_ | refine gK (by omega) ?_ | refine gL (by omega) ?_ | refine gK rfl ?_ | refine gO ?_); conv => whnf))
    refine boolRes_split (fun hb => ?_) (fun hb => ?_) <;> conv => whnf
    · have hlt : k < c.items.length := by omega
      have hx := itemRows_get hlt
      have hlk : (keepM o (c.items.take (k + 1))) = if oldB o c.items[k] = true then keepM o (c.items.take k) else keepM o (c.items.take k) ++ [c.items[k]] := by
        unfold keepM
        rw [List.take_succ_eq_append_getElem hlt, List.filter_append]
        by_cases h : oldB o c.items[k] = true <;> simp [h]
      have hlim : (itemRows (keepM o (c.items.take k))).length ≤ k := by
        rw [itemRows_len]
        have h2 := keepM_len o (c.items.take k)
        have h3 : (c.items.take k).length ≤ k := by simp; omega
        omega
      generalize c.items[k] = x at *
      repeat (first | refine gA ?_ | refine gB ?_ | refine gC rfl ?_ | refine gD rfl ?_ | ((first | refine gE env hN (by kernel_rfl) ?_ | refine gF ?_ | refine gG ?_ | refine gH fun hlen => ?_ | refine gI (by kernel_rfl) ?_ | refine gN rfl ?_ | refine gN (by omega) ?_ | refine gJ rfl ?_ | refine gK (by omega) ?_ | refine gL (by omega) ?_ | refine gK rfl ?_ | refine gO ?_); conv => whnf))
      refine rowAt_of (by simpa using hx) ?_
      conv => whnf
      (
          (repeat (first | refine gA ?_ | refine gB ?_ | refine gC rfl ?_ | refine gD rfl ?_ | ((first | refine gE env hN (by kernel_rfl) ?_ | refine gF ?_ | refine gG ?_ | refine gH fun hlen => ?_ | refine gI (by kernel_rfl) ?_ | refine gN rfl ?_ | refine gN (by omega) ?_ | refine gJ rfl ?_ | refine gK (by omega) ?_ | refine gL (by omega) ?_ | refine gK rfl ?_ | refine gO ?_); conv => whnf)))
          first
            | (
              have hp : oldB o x = false := by simp [oldB]; omega
              rw [hp, if_neg (by simp)] at hlk
              refine ⟨⟨rowsSz_cons rfl rowsSz_nil, rfl⟩, fitN (n := (itemRows (keepM o (c.items.take k))).length + 1) (b := 64) (by omega) (by omega), .inl ⟨rfl, rfl, ?_⟩⟩
              conv => whnf
              repeat (first | refine gA ?_ | refine gB ?_ | refine gC rfl ?_ | refine gD rfl ?_ | ((first | refine gE env hN (by kernel_rfl) ?_ | refine gF ?_ | refine gG ?_ | refine gH fun hlen => ?_ | refine gI (by kernel_rfl) ?_ | refine gN rfl ?_ | refine gN (by omega) ?_ | refine gJ rfl ?_ | refine gK (by omega) ?_ | refine gL (by omega) ?_ | refine gK rfl ?_ | refine gO ?_); conv => whnf))
              have hn := itemRows_snoc (keepM o (c.items.take k)) x
              rw [← hlk] at hn
              refine ⟨_, _, ?_, ⟨k + 1, by omega, rfl, rfl⟩, [(4, 4), (6, 6), (11, 11), (51, 51)], [], [], LeG.mk' rfl rfl rfl (by repeat' (first | exact trivial | exact ⟨_, .refl _, rfl⟩ | apply And.intro)) (.cons 4 rfl rfl (.refl _) rfl (.cons 6 rfl rfl (.refl _) ?_ (.cons 11 rfl rfl (.refl _) rfl (.cons 51 rfl rfl (.refl _) ?_ .nil)))) rfl rfl (by rw [hK]; rfl)⟩
              · omega
              · rw [hn, List.length_append]; rfl
              · rw [hn]; rfl
              done)
            | (
              have hp : oldB o x = true := by simp [oldB]; omega
              rw [hp, if_pos rfl] at hlk
              refine ⟨_, _, ?_, ⟨k + 1, by omega, rfl, rfl⟩, [(4, 4), (6, 6), (11, 11), (51, 51)], [], [], LeG.mk' rfl rfl rfl (by repeat' (first | exact trivial | exact ⟨_, .refl _, rfl⟩ | apply And.intro)) (.cons 4 rfl rfl (.refl _) rfl (.cons 6 rfl rfl (.refl _) ?_ (.cons 11 rfl rfl (.refl _) rfl (.cons 51 rfl rfl (.refl _) ?_ .nil)))) rfl rfl (by rw [hK]; rfl)⟩
              · omega
              · rw [hlk]; rfl
              · rw [hlk]; rfl
              done)
            | ((refine boolRes_split (fun hb => ?_) (fun hb => ?_) <;> conv => whnf) <;> (
          (repeat (first | refine gA ?_ | refine gB ?_ | refine gC rfl ?_ | refine gD rfl ?_ | ((first | refine gE env hN (by kernel_rfl) ?_ | refine gF ?_ | refine gG ?_ | refine gH fun hlen => ?_ | refine gI (by kernel_rfl) ?_ | refine gN rfl ?_ | refine gN (by omega) ?_ | refine gJ rfl ?_ | refine gK (by omega) ?_ | refine gL (by omega) ?_ | refine gK rfl ?_ | refine gO ?_); conv => whnf)))
          first
            | (
              have hp : oldB o x = false := by simp [oldB]; omega
              rw [hp, if_neg (by simp)] at hlk
              refine ⟨⟨rowsSz_cons rfl rowsSz_nil, rfl⟩, fitN (n := (itemRows (keepM o (c.items.take k))).length + 1) (b := 64) (by omega) (by omega), .inl ⟨rfl, rfl, ?_⟩⟩
              conv => whnf
              repeat (first | refine gA ?_ | refine gB ?_ | refine gC rfl ?_ | refine gD rfl ?_ | ((first | refine gE env hN (by kernel_rfl) ?_ | refine gF ?_ | refine gG ?_ | refine gH fun hlen => ?_ | refine gI (by kernel_rfl) ?_ | refine gN rfl ?_ | refine gN (by omega) ?_ | refine gJ rfl ?_ | refine gK (by omega) ?_ | refine gL (by omega) ?_ | refine gK rfl ?_ | refine gO ?_); conv => whnf))
              have hn := itemRows_snoc (keepM o (c.items.take k)) x
              rw [← hlk] at hn
              refine ⟨_, _, ?_, ⟨k + 1, by omega, rfl, rfl⟩, [(4, 4), (6, 6), (11, 11), (51, 51)], [], [], LeG.mk' rfl rfl rfl (by repeat' (first | exact trivial | exact ⟨_, .refl _, rfl⟩ | apply And.intro)) (.cons 4 rfl rfl (.refl _) rfl (.cons 6 rfl rfl (.refl _) ?_ (.cons 11 rfl rfl (.refl _) rfl (.cons 51 rfl rfl (.refl _) ?_ .nil)))) rfl rfl (by rw [hK]; rfl)⟩
              · omega
              · rw [hn, List.length_append]; rfl
              · rw [hn]; rfl
              done)
            | (
              have hp : oldB o x = true := by simp [oldB]; omega
              rw [hp, if_pos rfl] at hlk
              refine ⟨_, _, ?_, ⟨k + 1, by omega, rfl, rfl⟩, [(4, 4), (6, 6), (11, 11), (51, 51)], [], [], LeG.mk' rfl rfl rfl (by repeat' (first | exact trivial | exact ⟨_, .refl _, rfl⟩ | apply And.intro)) (.cons 4 rfl rfl (.refl _) rfl (.cons 6 rfl rfl (.refl _) ?_ (.cons 11 rfl rfl (.refl _) rfl (.cons 51 rfl rfl (.refl _) ?_ .nil)))) rfl rfl (by rw [hK]; rfl)⟩
              · omega
              · rw [hlk]; rfl
              · rw [hlk]; rfl
              done)
            | ((refine boolRes_split (fun hb => ?_) (fun hb => ?_) <;> conv => whnf) <;> (
          (repeat (first | refine gA ?_ | refine gB ?_ | refine gC rfl ?_ | refine gD rfl ?_ | ((first | refine gE env hN (by kernel_rfl) ?_ | refine gF ?_ | refine gG ?_ | refine gH fun hlen => ?_ | refine gI (by kernel_rfl) ?_ | refine gN rfl ?_ | refine gN (by omega) ?_ | refine gJ rfl ?_ | refine gK (by omega) ?_ | refine gL (by omega) ?_ | refine gK rfl ?_ | refine gO ?_); conv => whnf)))
          first
            | (
              have hp : oldB o x = false := by simp [oldB]; omega
              rw [hp, if_neg (by simp)] at hlk
              refine ⟨⟨rowsSz_cons rfl rowsSz_nil, rfl⟩, fitN (n := (itemRows (keepM o (c.items.take k))).length + 1) (b := 64) (by omega) (by omega), .inl ⟨rfl, rfl, ?_⟩⟩
              conv => whnf
              repeat (first | refine gA ?_ | refine gB ?_ | refine gC rfl ?_ | refine gD rfl ?_ | ((first | refine gE env hN (by kernel_rfl) ?_ | refine gF ?_ | refine gG ?_ | refine gH fun hlen => ?_ | refine gI (by kernel_rfl) ?_ | refine gN rfl ?_ | refine gN (by omega) ?_ | refine gJ rfl ?_ | refine gK (by omega) ?_ | refine gL (by omega) ?_ | refine gK rfl ?_ | refine gO ?_); conv => whnf))
              have hn := itemRows_snoc (keepM o (c.items.take k)) x
              rw [← hlk] at hn
              refine ⟨_, _, ?_, ⟨k + 1, by omega, rfl, rfl⟩, [(4, 4), (6, 6), (11, 11), (51, 51)], [], [], LeG.mk' rfl rfl rfl (by repeat' (first | exact trivial | exact ⟨_, .refl _, rfl⟩ | apply And.intro)) (.cons 4 rfl rfl (.refl _) rfl (.cons 6 rfl rfl (.refl _) ?_ (.cons 11 rfl rfl (.refl _) rfl (.cons 51 rfl rfl (.refl _) ?_ .nil)))) rfl rfl (by rw [hK]; rfl)⟩
              · omega
              · rw [hn, List.length_append]; rfl
              · rw [hn]; rfl
              done)
            | (
              have hp : oldB o x = true := by simp [oldB]; omega
              rw [hp, if_pos rfl] at hlk
              refine ⟨_, _, ?_, ⟨k + 1, by omega, rfl, rfl⟩, [(4, 4), (6, 6), (11, 11), (51, 51)], [], [], LeG.mk' rfl rfl rfl (by repeat' (first | exact trivial | exact ⟨_, .refl _, rfl⟩ | apply And.intro)) (.cons 4 rfl rfl (.refl _) rfl (.cons 6 rfl rfl (.refl _) ?_ (.cons 11 rfl rfl (.refl _) rfl (.cons 51 rfl rfl (.refl _) ?_ .nil)))) rfl rfl (by rw [hK]; rfl)⟩
              · omega
              · rw [hlk]; rfl
              · rw [hlk]; rfl
              done)
            | ((refine boolRes_split (fun hb => ?_) (fun hb => ?_) <;> conv => whnf) <;> (
          (repeat (first | refine gA ?_ | refine gB ?_ | refine gC rfl ?_ | refine gD rfl ?_ | ((first | refine gE env hN (by kernel_rfl) ?_ | refine gF ?_ | refine gG ?_ | refine gH fun hlen => ?_ | refine gI (by kernel_rfl) ?_ | refine gN rfl ?_ | refine gN (by omega) ?_ | refine gJ rfl ?_ | refine gK (by omega) ?_ | refine gL (by omega) ?_ | refine gK rfl ?_ | refine gO ?_); conv => whnf)))
          first
            | (
              have hp : oldB o x = false := by simp [oldB]; omega
              rw [hp, if_neg (by simp)] at hlk
              refine ⟨⟨rowsSz_cons rfl rowsSz_nil, rfl⟩, fitN (n := (itemRows (keepM o (c.items.take k))).length + 1) (b := 64) (by omega) (by omega), .inl ⟨rfl, rfl, ?_⟩⟩
              conv => whnf
              repeat (first | refine gA ?_ | refine gB ?_ | refine gC rfl ?_ | refine gD rfl ?_ | ((first | refine gE env hN (by kernel_rfl) ?_ | refine gF ?_ | refine gG ?_ | refine gH fun hlen => ?_ | refine gI (by kernel_rfl) ?_ | refine gN rfl ?_ | refine gN (by omega) ?_ | refine gJ rfl ?_ | refine gK (by omega) ?_ | refine gL (by omega) ?_ | refine gK rfl ?_ | refine gO ?_); conv => whnf))
              have hn := itemRows_snoc (keepM o (c.items.take k)) x
              rw [← hlk] at hn
              refine ⟨_, _, ?_, ⟨k + 1, by omega, rfl, rfl⟩, [(4, 4), (6, 6), (11, 11), (51, 51)], [], [], LeG.mk' rfl rfl rfl (by repeat' (first | exact trivial | exact ⟨_, .refl _, rfl⟩ | apply And.intro)) (.cons 4 rfl rfl (.refl _) rfl (.cons 6 rfl rfl (.refl _) ?_ (.cons 11 rfl rfl (.refl _) rfl (.cons 51 rfl rfl (.refl _) ?_ .nil)))) rfl rfl (by rw [hK]; rfl)⟩
              · omega
              · rw [hn, List.length_append]; rfl
              · rw [hn]; rfl
              done)
            | (
              have hp : oldB o x = true := by simp [oldB]; omega
              rw [hp, if_pos rfl] at hlk
              refine ⟨_, _, ?_, ⟨k + 1, by omega, rfl, rfl⟩, [(4, 4), (6, 6), (11, 11), (51, 51)], [], [], LeG.mk' rfl rfl rfl (by repeat' (first | exact trivial | exact ⟨_, .refl _, rfl⟩ | apply And.intro)) (.cons 4 rfl rfl (.refl _) rfl (.cons 6 rfl rfl (.refl _) ?_ (.cons 11 rfl rfl (.refl _) rfl (.cons 51 rfl rfl (.refl _) ?_ .nil)))) rfl rfl (by rw [hK]; rfl)⟩
              · omega
              · rw [hlk]; rfl
              · rw [hlk]; rfl
              done)
            | ((refine boolRes_split (fun hb => ?_) (fun hb => ?_) <;> conv => whnf) <;> (
          (repeat (first | refine gA ?_ | refine gB ?_ | refine gC rfl ?_ | refine gD rfl ?_ | ((first | refine gE env hN (by kernel_rfl) ?_ | refine gF ?_ | refine gG ?_ | refine gH fun hlen => ?_ | refine gI (by kernel_rfl) ?_ | refine gN rfl ?_ | refine gN (by omega) ?_ | refine gJ rfl ?_ | refine gK (by omega) ?_ | refine gL (by omega) ?_ | refine gK rfl ?_ | refine gO ?_); conv => whnf)))
          first
            | (
              have hp : oldB o x = false := by simp [oldB]; omega
              rw [hp, if_neg (by simp)] at hlk
              refine ⟨⟨rowsSz_cons rfl rowsSz_nil, rfl⟩, fitN (n := (itemRows (keepM o (c.items.take k))).length + 1) (b := 64) (by omega) (by omega), .inl ⟨rfl, rfl, ?_⟩⟩
              conv => whnf
              repeat (first | refine gA ?_ | refine gB ?_ | refine gC rfl ?_ | refine gD rfl ?_ | ((first | refine gE env hN (by kernel_rfl) ?_ | refine gF ?_ | refine gG ?_ | refine gH fun hlen => ?_ | refine gI (by kernel_rfl) ?_ | refine gN rfl ?_ | refine gN (by omega) ?_ | refine gJ rfl ?_ | refine gK (by omega) ?_ | refine gL (by omega) ?_ | refine gK rfl ?_ | refine gO ?_); conv => whnf))
              have hn := itemRows_snoc (keepM o (c.items.take k)) x
              rw [← hlk] at hn
              refine ⟨_, _, ?_, ⟨k + 1, by omega, rfl, rfl⟩, [(4, 4), (6, 6), (11, 11), (51, 51)], [], [], LeG.mk' rfl rfl rfl (by repeat' (first | exact trivial | exact ⟨_, .refl _, rfl⟩ | apply And.intro)) (.cons 4 rfl rfl (.refl _) rfl (.cons 6 rfl rfl (.refl _) ?_ (.cons 11 rfl rfl (.refl _) rfl (.cons 51 rfl rfl (.refl _) ?_ .nil)))) rfl rfl (by rw [hK]; rfl)⟩
              · omega
              · rw [hn, List.length_append]; rfl
              · rw [hn]; rfl
              done)
            | (
              have hp : oldB o x = true := by simp [oldB]; omega
              rw [hp, if_pos rfl] at hlk
              refine ⟨_, _, ?_, ⟨k + 1, by omega, rfl, rfl⟩, [(4, 4), (6, 6), (11, 11), (51, 51)], [], [], LeG.mk' rfl rfl rfl (by repeat' (first | exact trivial | exact ⟨_, .refl _, rfl⟩ | apply And.intro)) (.cons 4 rfl rfl (.refl _) rfl (.cons 6 rfl rfl (.refl _) ?_ (.cons 11 rfl rfl (.refl _) rfl (.cons 51 rfl rfl (.refl _) ?_ .nil)))) rfl rfl (by rw [hK]; rfl)⟩
              · omega
              · rw [hlk]; rfl
              · rw [hlk]; rfl
              done)
            | ((refine boolRes_split (fun hb => ?_) (fun hb => ?_) <;> conv => whnf) <;> (
          (repeat (first | refine gA ?_ | refine gB ?_ | refine gC rfl ?_ | refine gD rfl ?_ | ((first | refine gE env hN (by kernel_rfl) ?_ | refine gF ?_ | refine gG ?_ | refine gH fun hlen => ?_ | refine gI (by kernel_rfl) ?_ | refine gN rfl ?_ | refine gN (by omega) ?_ | refine gJ rfl ?_ | refine gK (by omega) ?_ | refine gL (by omega) ?_ | refine gK rfl ?_ | refine gO ?_); conv => whnf)))
          first
            | (
              have hp : oldB o x = false := by simp [oldB]; omega
              rw [hp, if_neg (by simp)] at hlk
              refine ⟨⟨rowsSz_cons rfl rowsSz_nil, rfl⟩, fitN (n := (itemRows (keepM o (c.items.take k))).length + 1) (b := 64) (by omega) (by omega), .inl ⟨rfl, rfl, ?_⟩⟩
              conv => whnf
              repeat (first | refine gA ?_ | refine gB ?_ | refine gC rfl ?_ | refine gD rfl ?_ | ((first | refine gE env hN (by kernel_rfl) ?_ | refine gF ?_ | refine gG ?_ | refine gH fun hlen => ?_ | refine gI (by kernel_rfl) ?_ | refine gN rfl ?_ | refine gN (by omega) ?_ | refine gJ rfl ?_ | refine gK (by omega) ?_ | refine gL (by omega) ?_ | refine gK rfl ?_ | refine gO ?_); conv => whnf))
              have hn := itemRows_snoc (keepM o (c.items.take k)) x
              rw [← hlk] at hn
              refine ⟨_, _, ?_, ⟨k + 1, by omega, rfl, rfl⟩, [(4, 4), (6, 6), (11, 11), (51, 51)], [], [], LeG.mk' rfl rfl rfl (by repeat' (first | exact trivial | exact ⟨_, .refl _, rfl⟩ | apply And.intro)) (.cons 4 rfl rfl (.refl _) rfl (.cons 6 rfl rfl (.refl _) ?_ (.cons 11 rfl rfl (.refl _) rfl (.cons 51 rfl rfl (.refl _) ?_ .nil)))) rfl rfl (by rw [hK]; rfl)⟩
              · omega
              · rw [hn, List.length_append]; rfl
              · rw [hn]; rfl
              done)
            | (
              have hp : oldB o x = true := by simp [oldB]; omega
              rw [hp, if_pos rfl] at hlk
              refine ⟨_, _, ?_, ⟨k + 1, by omega, rfl, rfl⟩, [(4, 4), (6, 6), (11, 11), (51, 51)], [], [], LeG.mk' rfl rfl rfl (by repeat' (first | exact trivial | exact ⟨_, .refl _, rfl⟩ | apply And.intro)) (.cons 4 rfl rfl (.refl _) rfl (.cons 6 rfl rfl (.refl _) ?_ (.cons 11 rfl rfl (.refl _) rfl (.cons 51 rfl rfl (.refl _) ?_ .nil)))) rfl rfl (by rw [hK]; rfl)⟩
              · omega
              · rw [hlk]; rfl
              · rw [hlk]; rfl
              done)
            | ((refine boolRes_split (fun hb => ?_) (fun hb => ?_) <;> conv => whnf) <;> (
          (repeat (first | refine gA ?_ | refine gB ?_ | refine gC rfl ?_ | refine gD rfl ?_ | ((first | refine gE env hN (by kernel_rfl) ?_ | refine gF ?_ | refine gG ?_ | refine gH fun hlen => ?_ | refine gI (by kernel_rfl) ?_ | refine gN rfl ?_ | refine gN (by omega) ?_ | refine gJ rfl ?_ | refine gK (by omega) ?_ | refine gL (by omega) ?_ | refine gK rfl ?_ | refine gO ?_); conv => whnf)))
          first
            | (
              have hp : oldB o x = false := by simp [oldB]; omega
              rw [hp, if_neg (by simp)] at hlk
              refine ⟨⟨rowsSz_cons rfl rowsSz_nil, rfl⟩, fitN (n := (itemRows (keepM o (c.items.take k))).length + 1) (b := 64) (by omega) (by omega), .inl ⟨rfl, rfl, ?_⟩⟩
              conv => whnf
              repeat (first | refine gA ?_ | refine gB ?_ | refine gC rfl ?_ | refine gD rfl ?_ | ((first | refine gE env hN (by kernel_rfl) ?_ | refine gF ?_ | refine gG ?_ | refine gH fun hlen => ?_ | refine gI (by kernel_rfl) ?_ | refine gN rfl ?_ | refine gN (by omega) ?_ | refine gJ rfl ?_ | refine gK (by omega) ?_ | refine gL (by omega) ?_ | refine gK rfl ?_ | refine gO ?_); conv => whnf))
              have hn := itemRows_snoc (keepM o (c.items.take k)) x
              rw [← hlk] at hn
              refine ⟨_, _, ?_, ⟨k + 1, by omega, rfl, rfl⟩, [(4, 4), (6, 6), (11, 11), (51, 51)], [], [], LeG.mk' rfl rfl rfl (by repeat' (first | exact trivial | exact ⟨_, .refl _, rfl⟩ | apply And.intro)) (.cons 4 rfl rfl (.refl _) rfl (.cons 6 rfl rfl (.refl _) ?_ (.cons 11 rfl rfl (.refl _) rfl (.cons 51 rfl rfl (.refl _) ?_ .nil)))) rfl rfl (by rw [hK]; rfl)⟩
              · omega
              · rw [hn, List.length_append]; rfl
              · rw [hn]; rfl
              done)
            | (
              have hp : oldB o x = true := by simp [oldB]; omega
              rw [hp, if_pos rfl] at hlk
              refine ⟨_, _, ?_, ⟨k + 1, by omega, rfl, rfl⟩, [(4, 4), (6, 6), (11, 11), (51, 51)], [], [], LeG.mk' rfl rfl rfl (by repeat' (first | exact trivial | exact ⟨_, .refl _, rfl⟩ | apply And.intro)) (.cons 4 rfl rfl (.refl _) rfl (.cons 6 rfl rfl (.refl _) ?_ (.cons 11 rfl rfl (.refl _) rfl (.cons 51 rfl rfl (.refl _) ?_ .nil)))) rfl rfl (by rw [hK]; rfl)⟩
              · omega
              · rw [hlk]; rfl
              · rw [hlk]; rfl
              done)
            | ((refine boolRes_split (fun hb => ?_) (fun hb => ?_) <;> conv => whnf) <;> (
          (repeat (first | refine gA ?_ | refine gB ?_ | refine gC rfl ?_ | refine gD rfl ?_ | ((first | refine gE env hN (by kernel_rfl) ?_ | refine gF ?_ | refine gG ?_ | refine gH fun hlen => ?_ | refine gI (by kernel_rfl) ?_ | refine gN rfl ?_ | refine gN (by omega) ?_ | refine gJ rfl ?_ | refine gK (by omega) ?_ | refine gL (by omega) ?_ | refine gK rfl ?_ | refine gO ?_); conv => whnf)))
          first
            | (
              have hp : oldB o x = false := by simp [oldB]; omega
              rw [hp, if_neg (by simp)] at hlk
              refine ⟨⟨rowsSz_cons rfl rowsSz_nil, rfl⟩, fitN (n := (itemRows (keepM o (c.items.take k))).length + 1) (b := 64) (by omega) (by omega), .inl ⟨rfl, rfl, ?_⟩⟩
              conv => whnf
              repeat (first | refine gA ?_ | refine gB ?_ | refine gC rfl ?_ | refine gD rfl ?_ | ((first | refine gE env hN (by kernel_rfl) ?_ | refine gF ?_ | refine gG ?_ | refine gH fun hlen => ?_ | refine gI (by kernel_rfl) ?_ | refine gN rfl ?_ | refine gN (by omega) ?_ | refine gJ rfl ?_ | refine gK (by omega) ?_ | refine gL (by omega) ?_ | refine gK rfl ?_ | refine gO ?_); conv => whnf))
              have hn := itemRows_snoc (keepM o (c.items.take k)) x
              rw [← hlk] at hn
              refine ⟨_, _, ?_, ⟨k + 1, by omega, rfl, rfl⟩, [(4, 4), (6, 6), (11, 11), (51, 51)], [], [], LeG.mk' rfl rfl rfl (by repeat' (first | exact trivial | exact ⟨_, .refl _, rfl⟩ | apply And.intro)) (.cons 4 rfl rfl (.refl _) rfl (.cons 6 rfl rfl (.refl _) ?_ (.cons 11 rfl rfl (.refl _) rfl (.cons 51 rfl rfl (.refl _) ?_ .nil)))) rfl rfl (by rw [hK]; rfl)⟩
              · omega
              · rw [hn, List.length_append]; rfl
              · rw [hn]; rfl
              done)
            | (
              have hp : oldB o x = true := by simp [oldB]; omega
              rw [hp, if_pos rfl] at hlk
              refine ⟨_, _, ?_, ⟨k + 1, by omega, rfl, rfl⟩, [(4, 4), (6, 6), (11, 11), (51, 51)], [], [], LeG.mk' rfl rfl rfl (by repeat' (first | exact trivial | exact ⟨_, .refl _, rfl⟩ | apply And.intro)) (.cons 4 rfl rfl (.refl _) rfl (.cons 6 rfl rfl (.refl _) ?_ (.cons 11 rfl rfl (.refl _) rfl (.cons 51 rfl rfl (.refl _) ?_ .nil)))) rfl rfl (by rw [hK]; rfl)⟩
              · omega
              · rw [hlk]; rfl
              · rw [hlk]; rfl
              done)
            | ((refine boolRes_split (fun hb => ?_) (fun hb => ?_) <;> conv => whnf) <;> (
          (repeat (first | refine gA ?_ | refine gB ?_ | refine gC rfl ?_ | refine gD rfl ?_ | ((first | refine gE env hN (by kernel_rfl) ?_ | refine gF ?_ | refine gG ?_ | refine gH fun hlen => ?_ | refine gI (by kernel_rfl) ?_ | refine gN rfl ?_ | refine gN (by omega) ?_ | refine gJ rfl ?_ | refine gK (by omega) ?_ | refine gL (by omega) ?_ | refine gK rfl ?_ | refine gO ?_); conv => whnf)))
          first
            | (
              have hp : oldB o x = false := by simp [oldB]; omega
              rw [hp, if_neg (by simp)] at hlk
              refine ⟨⟨rowsSz_cons rfl rowsSz_nil, rfl⟩, fitN (n := (itemRows (keepM o (c.items.take k))).length + 1) (b := 64) (by omega) (by omega), .inl ⟨rfl, rfl, ?_⟩⟩
              conv => whnf
              repeat (first | refine gA ?_ | refine gB ?_ | refine gC rfl ?_ | refine gD rfl ?_ | ((first | refine gE env hN (by kernel_rfl) ?_ | refine gF ?_ | refine gG ?_ | refine gH fun hlen => ?_ | refine gI (by kernel_rfl) ?_ | refine gN rfl ?_ | refine gN (by omega) ?_ | refine gJ rfl ?_ | refine gK (by omega) ?_ | refine gL (by omega) ?_ | refine gK rfl ?_ | refine gO ?_); conv => whnf))
              have hn := itemRows_snoc (keepM o (c.items.take k)) x
              rw [← hlk] at hn
              refine ⟨_, _, ?_, ⟨k + 1, by omega, rfl, rfl⟩, [(4, 4), (6, 6), (11, 11), (51, 51)], [], [], LeG.mk' rfl rfl rfl (by repeat' (first | exact trivial | exact ⟨_, .refl _, rfl⟩ | apply And.intro)) (.cons 4 rfl rfl (.refl _) rfl (.cons 6 rfl rfl (.refl _) ?_ (.cons 11 rfl rfl (.refl _) rfl (.cons 51 rfl rfl (.refl _) ?_ .nil)))) rfl rfl (by rw [hK]; rfl)⟩
              · omega
              · rw [hn, List.length_append]; rfl
              · rw [hn]; rfl
              done)
            | (
              have hp : oldB o x = true := by simp [oldB]; omega
              rw [hp, if_pos rfl] at hlk
              refine ⟨_, _, ?_, ⟨k + 1, by omega, rfl, rfl⟩, [(4, 4), (6, 6), (11, 11), (51, 51)], [], [], LeG.mk' rfl rfl rfl (by repeat' (first | exact trivial | exact ⟨_, .refl _, rfl⟩ | apply And.intro)) (.cons 4 rfl rfl (.refl _) rfl (.cons 6 rfl rfl (.refl _) ?_ (.cons 11 rfl rfl (.refl _) rfl (.cons 51 rfl rfl (.refl _) ?_ .nil)))) rfl rfl (by rw [hK]; rfl)⟩
              · omega
              · rw [hlk]; rfl
              · rw [hlk]; rfl
              done)
            | ((refine boolRes_split (fun hb => ?_) (fun hb => ?_) <;> conv => whnf) <;> fail))))))))))))))))))
    · have hke : k = c.items.length := by omega
      subst hke
      rw [List.take_length]
      repeat (first | refine gA ?_ | refine gB ?_ | refine gC rfl ?_ | refine gD rfl ?_ | ((first | refine gE env hN (by kernel_rfl) ?_ | refine gF ?_ | refine gG ?_ | refine gH fun hlen => ?_ | refine gI (by kernel_rfl) ?_ | refine gN rfl ?_ | refine gN (by omega) ?_ | refine gJ rfl ?_ | refine gK (by omega) ?_ | refine gL (by omega) ?_ | refine gK rfl ?_ | refine gO ?_); conv => whnf))
      refine W.leG (mp := [(4, 4)]) (bo := [51]) (st' := ⟨[(4, .bp 4 0), (5, .int .i64 0)], [(4, [.rows 3 [[.int .i64 c.version, .int .i64 o, .sl (itemRows (keepM o c.items)) false]] none])], [4]⟩) (LeG.mk' rfl rfl rfl (by repeat' (first | exact trivial | exact ⟨_, .refl _, rfl⟩ | apply And.intro)) (.cons 4 (b1 := .rows 3 [[.int .i64 c.version, .int .i64 o, .sl (itemRows (keepM o c.items)) false]] none) rfl rfl (.rows _ _ _ (by repeat' (first | exact trivial | exact ⟨Lent.refl _, rfl⟩ | exact ⟨Lent.norm _, rfl⟩ | exact ⟨Lent.whole rfl rfl (by first | rfl | exact List.length_append.symm | exact hlenR | simp) rfl (by first | exact .inl rfl | exact .inr rfl), rfl⟩ | apply And.intro))) rfl .nil) rfl rfl (by rw [hK]; rfl)) ?_
      (refine gM ?_; conv => whnf)
      exact ret0 rfl rfl rfl
set_option maxHeartbeats 4000000 in
theorem same41_spec (a b : Coll) : Spec Tryd.prog 37 [.agg a.row, .agg b.row] [] (.bool (decide (a = b))) [] := by
  have hla := itemRows_len a.items
  have hlb := itemRows_len b.items
  have hE : decide (a = b) = decide (a.version = b.version ∧ a.oldest = b.oldest ∧ a.items = b.items) := by cases a; cases b; simp
  rw [hE]
  refine Spec.body env Tryd.func37 rfl (by kernel_rfl) (Nat.le_of_ble_eq_true (by kernel_rfl)) (keysSub rfl) fun Γ hN hK => ?_; have hML : maxLen = 9223372036854775807 := by unfold maxLen; rfl
  repeat (first | refine gA ?_ | refine gB ?_ | refine gC rfl ?_ | refine gD rfl ?_ | ((first | refine gE env hN (by kernel_rfl) ?_ | refine gF ?_ | refine gG ?_ | refine gH fun hlen => ?_ | refine gI (by kernel_rfl) ?_ | refine gN rfl ?_ | refine gN (by omega) ?_ | refine gJ rfl ?_ | refine gK (by omega) ?_ | refine gL (by omega) ?_ | refine gK rfl ?_ | refine gO ?_); conv => whnf))
  refine boolRes_split (fun hb => ?_) (fun hb => ?_) <;> conv => whnf
  · repeat (first | refine gA ?_ | refine gB ?_ | refine gC rfl ?_ | refine gD rfl ?_ | ((first | refine gE env hN (by kernel_rfl) ?_ | refine gF ?_ | refine gG ?_ | refine gH fun hlen => ?_ | refine gI (by kernel_rfl) ?_ | refine gN rfl ?_ | refine gN (by omega) ?_ | refine gJ rfl ?_ | refine gK (by omega) ?_ | refine gL (by omega) ?_ | refine gK rfl ?_ | refine gO ?_ | refine gM ?_); conv => whnf))
    exact ret0 rfl (congrArg V.bool (by rw [decide_eq_false]; rintro ⟨h, _⟩; exact hb h)) rfl
  have hv : a.version = b.version := by omega
  repeat (first | refine gA ?_ | refine gB ?_ | refine gC rfl ?_ | refine gD rfl ?_ | ((first | refine gE env hN (by kernel_rfl) ?_ | refine gF ?_ | refine gG ?_ | refine gH fun hlen => ?_ | refine gI (by kernel_rfl) ?_ | refine gN rfl ?_ | refine gN (by omega) ?_ | refine gJ rfl ?_ | refine gK (by omega) ?_ | refine gL (by omega) ?_ | refine gK rfl ?_ | refine gO ?_); conv => whnf))
  refine boolRes_split (fun hb => ?_) (fun hb => ?_) <;> conv => whnf
  · repeat (first | refine gA ?_ | refine gB ?_ | refine gC rfl ?_ | refine gD rfl ?_ | ((first | refine gE env hN (by kernel_rfl) ?_ | refine gF ?_ | refine gG ?_ | refine gH fun hlen => ?_ | refine gI (by kernel_rfl) ?_ | refine gN rfl ?_ | refine gN (by omega) ?_ | refine gJ rfl ?_ | refine gK (by omega) ?_ | refine gL (by omega) ?_ | refine gK rfl ?_ | refine gO ?_ | refine gM ?_); conv => whnf))
    exact ret0 rfl (congrArg V.bool (by rw [decide_eq_false]; rintro ⟨_, h, _⟩; exact hb h)) rfl
  have ho : a.oldest = b.oldest := by omega
  repeat (first | refine gA ?_ | refine gB ?_ | refine gC rfl ?_ | refine gD rfl ?_ | ((first | refine gE env hN (by kernel_rfl) ?_ | refine gF ?_ | refine gG ?_ | refine gH fun hlen => ?_ | refine gI (by kernel_rfl) ?_ | refine gN rfl ?_ | refine gN (by omega) ?_ | refine gJ rfl ?_ | refine gK (by omega) ?_ | refine gL (by omega) ?_ | refine gK rfl ?_ | refine gO ?_); conv => whnf))
  refine boolRes_split (fun hb => ?_) (fun hb => ?_) <;> conv => whnf
  · repeat (first | refine gA ?_ | refine gB ?_ | refine gC rfl ?_ | refine gD rfl ?_ | ((first | refine gE env hN (by kernel_rfl) ?_ | refine gF ?_ | refine gG ?_ | refine gH fun hlen => ?_ | refine gI (by kernel_rfl) ?_ | refine gN rfl ?_ | refine gN (by omega) ?_ | refine gJ rfl ?_ | refine gK (by omega) ?_ | refine gL (by omega) ?_ | refine gK rfl ?_ | refine gO ?_ | refine gM ?_); conv => whnf))
    exact ret0 rfl (congrArg V.bool (by rw [decide_eq_false]; rintro ⟨_, _, h⟩; have := congrArg List.length h; omega)) rfl
  have hL : a.items.length = b.items.length := by omega
  repeat (first | refine gA ?_ | refine gB ?_ | refine gC rfl ?_ | refine gD rfl ?_ | ((first | refine gE env hN (by kernel_rfl) ?_ | refine gF ?_ | refine gG ?_ | refine gH fun hlen => ?_ | refine gI (by kernel_rfl) ?_ | refine gN rfl ?_ | refine gN (by omega) ?_ | refine gJ rfl ?_ | refine gK (by omega) ?_ | refine gL (by omega) ?_ | refine gK rfl ?_ | refine gO ?_); conv => whnf))
  refine W.loopG (fun n st => ∃ k : Nat, k ≤ a.items.length ∧ a.items.take k = b.items.take k ∧ n = a.items.length - k ∧ st = ⟨[(2, .bp 2 0), (3, .bp 3 0), (30, .sl (itemRows a.items) false), (31, .int .i64 (itemRows a.items).length), (32, .int .i64 k)], [(2, [.rows 3 [a.row] none]), (3, [.rows 3 [b.row] none])], [2, 3]⟩)
    a.items.length _ ⟨0, by omega, by simp, by omega, rfl⟩ ⟨[(2, 2), (3, 3)], [], [], LeG.mk' rfl rfl rfl (by repeat' (first | exact trivial | exact ⟨_, .refl _, rfl⟩ | apply And.intro)) (.cons 2 rfl rfl (.refl _) rfl (.cons 3 rfl rfl (.refl _) rfl .nil)) rfl rfl (by rw [hK]; rfl)⟩ ?_
  rintro n st ⟨k, hk, htk, rfl, rfl⟩
  repeat (first | refine gA ?_ | refine gB ?_ | refine gC rfl ?_ | refine gD rfl ?_ | ((first | refine gE env hN (by kernel_rfl) ?_ | refine gF ?_ | refine gG ?_ | refine gH fun hlen => ?_ | refine gI (by kernel_rfl) ?_ | refine gN rfl ?_ | refine gN (by omega) ?_ | refine gJ rfl ?_ | refine gK (by omega) ?_ | refine gL (by omega) ?_ | refine gK rfl ?_ | refine gO ?_); conv => whnf))
  refine boolRes_split (fun hb => ?_) (fun hb => ?_) <;> conv => whnf
  · have hlt : k < a.items.length := by omega
    have hltb : k < b.items.length := by omega
    have sp := same3_spec a.items[k].tab b.items[k].tab
    have hne : ∀ {p : Prop} [Decidable p], (a.items[k] ≠ b.items[k]) → false = decide (a.version = b.version ∧ a.oldest = b.oldest ∧ a.items = b.items) := fun {p} _ h => by
      symm
      rw [decide_eq_false]
      rintro ⟨_, _, h2⟩
      exact h (by simp only [h2])
    repeat (first | refine gA ?_ | refine gB ?_ | refine gC rfl ?_ | refine gD rfl ?_ | ((first | refine gE env hN (by kernel_rfl) ?_ | refine gF ?_ | refine gG ?_ | refine gH fun hlen => ?_ | refine gI (by kernel_rfl) ?_ | refine gN rfl ?_ | refine gN (by omega) ?_ | refine gJ rfl ?_ | refine gK (by omega) ?_ | refine gL (by omega) ?_ | refine gK rfl ?_ | refine gO ?_); conv => whnf))
    refine rowAt_of (itemRows_get hlt) ?_
    conv => whnf
    repeat (first | refine gA ?_ | refine gB ?_ | refine gC rfl ?_ | refine gD rfl ?_ | ((first | refine gE env hN (by kernel_rfl) ?_ | refine gF ?_ | refine gG ?_ | refine gH fun hlen => ?_ | refine gI (by kernel_rfl) ?_ | refine gN rfl ?_ | refine gN (by omega) ?_ | refine gJ rfl ?_ | refine gK (by omega) ?_ | refine gL (by omega) ?_ | refine gK rfl ?_ | refine gO ?_); conv => whnf))
    refine rowAt_of (itemRows_get hltb) ?_
    conv => whnf
    repeat (first | refine gA ?_ | refine gB ?_ | refine gC rfl ?_ | refine gD rfl ?_ | ((first | refine gE env hN (by kernel_rfl) ?_ | refine gF ?_ | refine gG ?_ | refine gH fun hlen => ?_ | refine gI (by kernel_rfl) ?_ | refine gN rfl ?_ | refine gN (by omega) ?_ | refine gJ rfl ?_ | refine gK (by omega) ?_ | refine gL (by omega) ?_ | refine gK rfl ?_ | refine gO ?_); conv => whnf))
    refine boolRes_split (fun hb => ?_) (fun hb => ?_) <;> conv => whnf
    · have hc : a.items[k] ≠ b.items[k] := fun h => hb (by rw [h])
      repeat (first | refine gA ?_ | refine gB ?_ | refine gC rfl ?_ | refine gD rfl ?_ | ((first | refine gE env hN (by kernel_rfl) ?_ | refine gF ?_ | refine gG ?_ | refine gH fun hlen => ?_ | refine gI (by kernel_rfl) ?_ | refine gN rfl ?_ | refine gN (by omega) ?_ | refine gJ rfl ?_ | refine gK (by omega) ?_ | refine gL (by omega) ?_ | refine gK rfl ?_ | refine gO ?_ | refine gM ?_); conv => whnf))
      exact ret0 rfl (congrArg V.bool (hne (p := True) hc)) rfl
    have h1 : a.items[k].from_ = b.items[k].from_ := by omega
    repeat (first | refine gA ?_ | refine gB ?_ | refine gC rfl ?_ | refine gD rfl ?_ | ((first | refine gE env hN (by kernel_rfl) ?_ | refine gF ?_ | refine gG ?_ | refine gH fun hlen => ?_ | refine gI (by kernel_rfl) ?_ | refine gN rfl ?_ | refine gN (by omega) ?_ | refine gJ rfl ?_ | refine gK (by omega) ?_ | refine gL (by omega) ?_ | refine gK rfl ?_ | refine gO ?_); conv => whnf))
    refine boolRes_split (fun hb => ?_) (fun hb => ?_) <;> conv => whnf
    · have hc : a.items[k] ≠ b.items[k] := fun h => hb (by rw [h])
      repeat (first | refine gA ?_ | refine gB ?_ | refine gC rfl ?_ | refine gD rfl ?_ | ((first | refine gE env hN (by kernel_rfl) ?_ | refine gF ?_ | refine gG ?_ | refine gH fun hlen => ?_ | refine gI (by kernel_rfl) ?_ | refine gN rfl ?_ | refine gN (by omega) ?_ | refine gJ rfl ?_ | refine gK (by omega) ?_ | refine gL (by omega) ?_ | refine gK rfl ?_ | refine gO ?_ | refine gM ?_); conv => whnf))
      exact ret0 rfl (congrArg V.bool (hne (p := True) hc)) rfl
    have h2 : a.items[k].until_ = b.items[k].until_ := by omega
    repeat (first | refine gA ?_ | refine gB ?_ | refine gC rfl ?_ | refine gD rfl ?_ | ((first | refine gE env hN (by kernel_rfl) ?_ | refine gF ?_ | refine gG ?_ | refine gH fun hlen => ?_ | refine gI (by kernel_rfl) ?_ | refine gN rfl ?_ | refine gN (by omega) ?_ | refine gJ rfl ?_ | refine gK (by omega) ?_ | refine gL (by omega) ?_ | refine gK rfl ?_ | refine gO ?_); conv => whnf))
    by_cases hc : a.items[k].tab = b.items[k].tab
    · rw [decide_eq_true hc] at sp
      have hc2 : a.items[k] = b.items[k] := by
        revert h1 h2 hc
        generalize a.items[k] = u
        generalize b.items[k] = v
        cases u; cases v
        simp
        intro h1 h2 h3
        exact ⟨h3, h1, h2⟩
      (refine ⟨_, _, _, callG [] [] [] rfl rfl rfl (by kernel_rfl) (sp) (by repeat' (first | exact trivial | exact Lent.refl _ | exact Lent.norm _ | apply And.intro)) rfl ⟨rfl, rfl, rfl, rfl, rfl, trivial, rfl, rfl⟩, ?_⟩; conv => whnf)
      repeat (first | refine gA ?_ | refine gB ?_ | refine gC rfl ?_ | refine gD rfl ?_ | ((first | refine gE env hN (by kernel_rfl) ?_ | refine gF ?_ | refine gG ?_ | refine gH fun hlen => ?_ | refine gI (by kernel_rfl) ?_ | refine gN rfl ?_ | refine gN (by omega) ?_ | refine gJ rfl ?_ | refine gK (by omega) ?_ | refine gL (by omega) ?_ | refine gK rfl ?_ | refine gO ?_); conv => whnf))
      refine ⟨_, _, ?_, ⟨k + 1, by omega, take_snoc htk hlt hltb hc2, rfl, rfl⟩, ⟨[(2, 2), (3, 3)], [], [], LeG.mk' rfl rfl rfl (by repeat' (first | exact trivial | exact ⟨_, .refl _, rfl⟩ | apply And.intro)) (.cons 2 rfl rfl (.refl _) rfl (.cons 3 rfl rfl (.refl _) rfl .nil)) rfl rfl (by rw [hK]; rfl)⟩⟩
      omega
    · rw [decide_eq_false hc] at sp
      have hc2 : a.items[k] ≠ b.items[k] := fun h => hc (by rw [h])
      (refine ⟨_, _, _, callG [] [] [] rfl rfl rfl (by kernel_rfl) (sp) (by repeat' (first | exact trivial | exact Lent.refl _ | exact Lent.norm _ | apply And.intro)) rfl ⟨rfl, rfl, rfl, rfl, rfl, trivial, rfl, rfl⟩, ?_⟩; conv => whnf)
      repeat (first | refine gA ?_ | refine gB ?_ | refine gC rfl ?_ | refine gD rfl ?_ | ((first | refine gE env hN (by kernel_rfl) ?_ | refine gF ?_ | refine gG ?_ | refine gH fun hlen => ?_ | refine gI (by kernel_rfl) ?_ | refine gN rfl ?_ | refine gN (by omega) ?_ | refine gJ rfl ?_ | refine gK (by omega) ?_ | refine gL (by omega) ?_ | refine gK rfl ?_ | refine gO ?_ | refine gM ?_); conv => whnf))
      exact ret0 rfl (congrArg V.bool (hne (p := True) hc2)) rfl
  · have hke : k = a.items.length := by omega
    rw [hke, List.take_length, hL, List.take_length] at htk
    repeat (first | refine gA ?_ | refine gB ?_ | refine gC rfl ?_ | refine gD rfl ?_ | ((first | refine gE env hN (by kernel_rfl) ?_ | refine gF ?_ | refine gG ?_ | refine gH fun hlen => ?_ | refine gI (by kernel_rfl) ?_ | refine gN rfl ?_ | refine gN (by omega) ?_ | refine gJ rfl ?_ | refine gK (by omega) ?_ | refine gL (by omega) ?_ | refine gK rfl ?_ | refine gO ?_ | refine gM ?_); conv => whnf))
    exact ret0 rfl (congrArg V.bool (by rw [decide_eq_true]; exact ⟨hv, ho, htk⟩)) rfl
set_option maxHeartbeats 4000000 in
theorem sameTables_spec (a b : List Table) : Spec Tryd.prog 34 [.sl (tblRows a) false, .sl (tblRows b) false] [] (.bool (decide (a = b))) [] := by
  have hla := tblRows_len a
  have hlb := tblRows_len b
  refine Spec.body env Tryd.func34 rfl (by kernel_rfl) (Nat.le_of_ble_eq_true (by kernel_rfl)) (keysSub rfl) fun Γ hN hK => ?_; have hML : maxLen = 9223372036854775807 := by unfold maxLen; rfl
  repeat (first | refine gA ?_ | refine gB ?_ | refine gC rfl ?_ | refine gD rfl ?_ | ((first | refine gE env hN (by kernel_rfl) ?_ | refine gF ?_ | refine gG ?_ | refine gH fun hlen => ?_ | refine gI (by kernel_rfl) ?_ | refine gN rfl ?_ | refine gN (by omega) ?_ | refine gJ rfl ?_ | refine gK (by omega) ?_ | refine gL (by omega) ?_ | refine gK rfl ?_ | refine gO ?_); conv => whnf))
  refine boolRes_split (fun hb => ?_) (fun hb => ?_) <;> conv => whnf
  · repeat (first | refine gA ?_ | refine gB ?_ | refine gC rfl ?_ | refine gD rfl ?_ | ((first | refine gE env hN (by kernel_rfl) ?_ | refine gF ?_ | refine gG ?_ | refine gH fun hlen => ?_ | refine gI (by kernel_rfl) ?_ | refine gN rfl ?_ | refine gN (by omega) ?_ | refine gJ rfl ?_ | refine gK (by omega) ?_ | refine gL (by omega) ?_ | refine gK rfl ?_ | refine gO ?_ | refine gM ?_); conv => whnf))
    exact ret0 rfl (congrArg V.bool (by rw [decide_eq_false]; intro h; have := congrArg List.length h; omega)) rfl
  have hL : a.length = b.length := by omega
  repeat (first | refine gA ?_ | refine gB ?_ | refine gC rfl ?_ | refine gD rfl ?_ | ((first | refine gE env hN (by kernel_rfl) ?_ | refine gF ?_ | refine gG ?_ | refine gH fun hlen => ?_ | refine gI (by kernel_rfl) ?_ | refine gN rfl ?_ | refine gN (by omega) ?_ | refine gJ rfl ?_ | refine gK (by omega) ?_ | refine gL (by omega) ?_ | refine gK rfl ?_ | refine gO ?_); conv => whnf))
  refine W.loopG (fun n st => ∃ k : Nat, k ≤ a.length ∧ a.take k = b.take k ∧ n = a.length - k ∧ st = ⟨[(1, .sl (tblRows b) false), (12, .sl (tblRows a) false), (13, .int .i64 (tblRows a).length), (14, .int .i64 k)], [], []⟩)
    a.length _ ⟨0, by omega, by simp, by omega, rfl⟩ ⟨[], [], [], LeG.mk' rfl rfl rfl (by repeat' (first | exact trivial | exact ⟨_, .refl _, rfl⟩ | apply And.intro)) .nil rfl rfl (by rw [hK]; rfl)⟩ ?_
  rintro n st ⟨k, hk, htk, rfl, rfl⟩
  repeat (first | refine gA ?_ | refine gB ?_ | refine gC rfl ?_ | refine gD rfl ?_ | ((first | refine gE env hN (by kernel_rfl) ?_ | refine gF ?_ | refine gG ?_ | refine gH fun hlen => ?_ | refine gI (by kernel_rfl) ?_ | refine gN rfl ?_ | refine gN (by omega) ?_ | refine gJ rfl ?_ | refine gK (by omega) ?_ | refine gL (by omega) ?_ | refine gK rfl ?_ | refine gO ?_); conv => whnf))
  refine boolRes_split (fun hb => ?_) (fun hb => ?_) <;> conv => whnf
  · have hlt : k < a.length := by omega
    have hltb : k < b.length := by omega
    have sp := same3_spec a[k] b[k]
    repeat (first | refine gA ?_ | refine gB ?_ | refine gC rfl ?_ | refine gD rfl ?_ | ((first | refine gE env hN (by kernel_rfl) ?_ | refine gF ?_ | refine gG ?_ | refine gH fun hlen => ?_ | refine gI (by kernel_rfl) ?_ | refine gN rfl ?_ | refine gN (by omega) ?_ | refine gJ rfl ?_ | refine gK (by omega) ?_ | refine gL (by omega) ?_ | refine gK rfl ?_ | refine gO ?_); conv => whnf))
    refine rowAt_of (tblRows_get hlt) ?_
    conv => whnf
    repeat (first | refine gA ?_ | refine gB ?_ | refine gC rfl ?_ | refine gD rfl ?_ | ((first | refine gE env hN (by kernel_rfl) ?_ | refine gF ?_ | refine gG ?_ | refine gH fun hlen => ?_ | refine gI (by kernel_rfl) ?_ | refine gN rfl ?_ | refine gN (by omega) ?_ | refine gJ rfl ?_ | refine gK (by omega) ?_ | refine gL (by omega) ?_ | refine gK rfl ?_ | refine gO ?_); conv => whnf))
    refine rowAt_of (tblRows_get hltb) ?_
    conv => whnf
    repeat (first | refine gA ?_ | refine gB ?_ | refine gC rfl ?_ | refine gD rfl ?_ | ((first | refine gE env hN (by kernel_rfl) ?_ | refine gF ?_ | refine gG ?_ | refine gH fun hlen => ?_ | refine gI (by kernel_rfl) ?_ | refine gN rfl ?_ | refine gN (by omega) ?_ | refine gJ rfl ?_ | refine gK (by omega) ?_ | refine gL (by omega) ?_ | refine gK rfl ?_ | refine gO ?_); conv => whnf))
    by_cases hc : a[k] = b[k]
    · rw [decide_eq_true hc] at sp
      (refine ⟨_, _, _, callG [] [] [] rfl rfl rfl (by kernel_rfl) (sp) (by repeat' (first | exact trivial | exact Lent.refl _ | exact Lent.norm _ | apply And.intro)) rfl ⟨rfl, rfl, rfl, rfl, rfl, trivial, rfl, rfl⟩, ?_⟩; conv => whnf)
      repeat (first | refine gA ?_ | refine gB ?_ | refine gC rfl ?_ | refine gD rfl ?_ | ((first | refine gE env hN (by kernel_rfl) ?_ | refine gF ?_ | refine gG ?_ | refine gH fun hlen => ?_ | refine gI (by kernel_rfl) ?_ | refine gN rfl ?_ | refine gN (by omega) ?_ | refine gJ rfl ?_ | refine gK (by omega) ?_ | refine gL (by omega) ?_ | refine gK rfl ?_ | refine gO ?_); conv => whnf))
      refine ⟨_, _, ?_, ⟨k + 1, by omega, take_snoc htk hlt hltb hc, rfl, rfl⟩, ⟨[], [], [], LeG.mk' rfl rfl rfl (by repeat' (first | exact trivial | exact ⟨_, .refl _, rfl⟩ | apply And.intro)) .nil rfl rfl (by rw [hK]; rfl)⟩⟩
      omega
    · rw [decide_eq_false hc] at sp
      (refine ⟨_, _, _, callG [] [] [] rfl rfl rfl (by kernel_rfl) (sp) (by repeat' (first | exact trivial | exact Lent.refl _ | exact Lent.norm _ | apply And.intro)) rfl ⟨rfl, rfl, rfl, rfl, rfl, trivial, rfl, rfl⟩, ?_⟩; conv => whnf)
      repeat (first | refine gA ?_ | refine gB ?_ | refine gC rfl ?_ | refine gD rfl ?_ | ((first | refine gE env hN (by kernel_rfl) ?_ | refine gF ?_ | refine gG ?_ | refine gH fun hlen => ?_ | refine gI (by kernel_rfl) ?_ | refine gN rfl ?_ | refine gN (by omega) ?_ | refine gJ rfl ?_ | refine gK (by omega) ?_ | refine gL (by omega) ?_ | refine gK rfl ?_ | refine gO ?_ | refine gM ?_); conv => whnf))
      exact ret0 rfl (congrArg V.bool (by
        rw [decide_eq_false]
        intro h
        exact hc (by simp only [h]))) rfl
  · have hke : k = a.length := by omega
    rw [hke, List.take_length, hL, List.take_length] at htk
    repeat (first | refine gA ?_ | refine gB ?_ | refine gC rfl ?_ | refine gD rfl ?_ | ((first | refine gE env hN (by kernel_rfl) ?_ | refine gF ?_ | refine gG ?_ | refine gH fun hlen => ?_ | refine gI (by kernel_rfl) ?_ | refine gN rfl ?_ | refine gN (by omega) ?_ | refine gJ rfl ?_ | refine gK (by omega) ?_ | refine gL (by omega) ?_ | refine gK rfl ?_ | refine gO ?_ | refine gM ?_); conv => whnf))
    exact ret0 rfl (congrArg V.bool (by rw [decide_eq_true]; exact htk)) rfl
end Go.Sx.Sp
namespace Go.Sx.Sp
open Go Go.Sx Go.Proofs
attribute [local irreducible] GoodW
def cmpI (a b : Int) : Int := if a < b then -1 else if b < a then 1 else 0
set_option maxHeartbeats 1000000 in
theorem isNaN_spec (n : Int) : Spec Tryd.prog 102 [.int .i64 n] [] (.bool false) [] := by
  refine Spec.body env Tryd.func102 rfl (by kernel_rfl) (Nat.le_of_ble_eq_true (by kernel_rfl)) (keysSub rfl) fun Γ hN hK => ?_; have hML : maxLen = 9223372036854775807 := by unfold maxLen; rfl
  repeat (first | refine gA ?_ | refine gB ?_ | refine gC rfl ?_ | refine gD rfl ?_ | ((first | refine gE env hN (by kernel_rfl) ?_ | refine gF ?_ | refine gG ?_ | refine gH fun hlen => ?_ | refine gI (by kernel_rfl) ?_ | refine gN rfl ?_ | refine gN (by omega) ?_ | refine gJ rfl ?_ | refine gK (by omega) ?_ | refine gL (by omega) ?_ | refine gK rfl ?_ | refine gO ?_); conv => whnf))
  repeat (first | refine gA ?_ | refine gB ?_ | refine gC rfl ?_ | refine gD rfl ?_ | ((first | refine gE env hN (by kernel_rfl) ?_ | refine gF ?_ | refine gG ?_ | refine gH fun hlen => ?_ | refine gI (by kernel_rfl) ?_ | refine gN rfl ?_ | refine gN (by omega) ?_ | refine gJ rfl ?_ | refine gK (by omega) ?_ | refine gL (by omega) ?_ | refine gK rfl ?_ | refine gO ?_ | refine gM ?_); conv => whnf))
  exact ret0 rfl rfl rfl
set_option maxHeartbeats 1000000 in
theorem cmp_spec (a b : Int) : Spec Tryd.prog 68 [.int .i64 a, .int .i64 b] [] (.int .i64 (cmpI a b)) [] := by
  refine Spec.body env Tryd.func68 rfl (by kernel_rfl) (Nat.le_of_ble_eq_true (by kernel_rfl)) (keysSub rfl) fun Γ hN hK => ?_; have hML : maxLen = 9223372036854775807 := by unfold maxLen; rfl
  repeat (first | refine gA ?_ | refine gB ?_ | refine gC rfl ?_ | refine gD rfl ?_ | ((first | refine gE env hN (by kernel_rfl) ?_ | refine gF ?_ | refine gG ?_ | refine gH fun hlen => ?_ | refine gI (by kernel_rfl) ?_ | refine gN rfl ?_ | refine gN (by omega) ?_ | refine gJ rfl ?_ | refine gK (by omega) ?_ | refine gL (by omega) ?_ | refine gK rfl ?_ | refine gO ?_); conv => whnf))
  (refine ⟨_, _, _, callG [] [] [] rfl rfl rfl (by kernel_rfl) (isNaN_spec a) (by repeat' (first | exact trivial | exact Lent.refl _ | exact Lent.norm _ | apply And.intro)) rfl ⟨rfl, rfl, rfl, rfl, rfl, trivial, rfl, rfl⟩, ?_⟩; conv => whnf)
  repeat (first | refine gA ?_ | refine gB ?_ | refine gC rfl ?_ | refine gD rfl ?_ | ((first | refine gE env hN (by kernel_rfl) ?_ | refine gF ?_ | refine gG ?_ | refine gH fun hlen => ?_ | refine gI (by kernel_rfl) ?_ | refine gN rfl ?_ | refine gN (by omega) ?_ | refine gJ rfl ?_ | refine gK (by omega) ?_ | refine gL (by omega) ?_ | refine gK rfl ?_ | refine gO ?_); conv => whnf))
  (refine ⟨_, _, _, callG [] [] [] rfl rfl rfl (by kernel_rfl) (isNaN_spec b) (by repeat' (first | exact trivial | exact Lent.refl _ | exact Lent.norm _ | apply And.intro)) rfl ⟨rfl, rfl, rfl, rfl, rfl, trivial, rfl, rfl⟩, ?_⟩; conv => whnf)
  repeat (first | refine gA ?_ | refine gB ?_ | refine gC rfl ?_ | refine gD rfl ?_ | ((first | refine gE env hN (by kernel_rfl) ?_ | refine gF ?_ | refine gG ?_ | refine gH fun hlen => ?_ | refine gI (by kernel_rfl) ?_ | refine gN rfl ?_ | refine gN (by omega) ?_ | refine gJ rfl ?_ | refine gK (by omega) ?_ | refine gL (by omega) ?_ | refine gK rfl ?_ | refine gO ?_); conv => whnf))
  refine boolRes_split (fun hb => ?_) (fun hb => ?_) <;> conv => whnf
  · have h : cmpI a b = -1 := by simp [cmpI, hb]
    rw [h]
    repeat (first | refine gA ?_ | refine gB ?_ | refine gC rfl ?_ | refine gD rfl ?_ | ((first | refine gE env hN (by kernel_rfl) ?_ | refine gF ?_ | refine gG ?_ | refine gH fun hlen => ?_ | refine gI (by kernel_rfl) ?_ | refine gN rfl ?_ | refine gN (by omega) ?_ | refine gJ rfl ?_ | refine gK (by omega) ?_ | refine gL (by omega) ?_ | refine gK rfl ?_ | refine gO ?_ | refine gM ?_); conv => whnf))
    exact ret0 rfl rfl rfl
  repeat (first | refine gA ?_ | refine gB ?_ | refine gC rfl ?_ | refine gD rfl ?_ | ((first | refine gE env hN (by kernel_rfl) ?_ | refine gF ?_ | refine gG ?_ | refine gH fun hlen => ?_ | refine gI (by kernel_rfl) ?_ | refine gN rfl ?_ | refine gN (by omega) ?_ | refine gJ rfl ?_ | refine gK (by omega) ?_ | refine gL (by omega) ?_ | refine gK rfl ?_ | refine gO ?_); conv => whnf))
  refine boolRes_split (fun hb => ?_) (fun hb => ?_) <;> conv => whnf
  · have h : cmpI a b = 1 := by unfold cmpI; rw [if_neg (by omega), if_pos (by omega)]
    rw [h]
    repeat (first | refine gA ?_ | refine gB ?_ | refine gC rfl ?_ | refine gD rfl ?_ | ((first | refine gE env hN (by kernel_rfl) ?_ | refine gF ?_ | refine gG ?_ | refine gH fun hlen => ?_ | refine gI (by kernel_rfl) ?_ | refine gN rfl ?_ | refine gN (by omega) ?_ | refine gJ rfl ?_ | refine gK (by omega) ?_ | refine gL (by omega) ?_ | refine gK rfl ?_ | refine gO ?_ | refine gM ?_); conv => whnf))
    exact ret0 rfl rfl rfl
  · have h : cmpI a b = 0 := by unfold cmpI; rw [if_neg (by omega), if_neg (by omega)]
    rw [h]
    repeat (first | refine gA ?_ | refine gB ?_ | refine gC rfl ?_ | refine gD rfl ?_ | ((first | refine gE env hN (by kernel_rfl) ?_ | refine gF ?_ | refine gG ?_ | refine gH fun hlen => ?_ | refine gI (by kernel_rfl) ?_ | refine gN rfl ?_ | refine gN (by omega) ?_ | refine gJ rfl ?_ | refine gK (by omega) ?_ | refine gL (by omega) ?_ | refine gK rfl ?_ | refine gO ?_ | refine gM ?_); conv => whnf))
    exact ret0 rfl rfl rfl
set_option maxHeartbeats 1000000 in
theorem byId_spec (x y : Table) : Spec Tryd.prog 67 [.agg x.row, .agg y.row] [] (.int .i64 (cmpI x.id y.id)) [] := by
  have sp := cmp_spec x.id y.id
  refine Spec.body env Tryd.func67 rfl (by kernel_rfl) (Nat.le_of_ble_eq_true (by kernel_rfl)) (keysSub rfl) fun Γ hN hK => ?_; have hML : maxLen = 9223372036854775807 := by unfold maxLen; rfl
  repeat (first | refine gA ?_ | refine gB ?_ | refine gC rfl ?_ | refine gD rfl ?_ | ((first | refine gE env hN (by kernel_rfl) ?_ | refine gF ?_ | refine gG ?_ | refine gH fun hlen => ?_ | refine gI (by kernel_rfl) ?_ | refine gN rfl ?_ | refine gN (by omega) ?_ | refine gJ rfl ?_ | refine gK (by omega) ?_ | refine gL (by omega) ?_ | refine gK rfl ?_ | refine gO ?_); conv => whnf))
  (refine ⟨_, _, _, callG [] [] [] rfl rfl rfl (by kernel_rfl) (sp) (by repeat' (first | exact trivial | exact Lent.refl _ | exact Lent.norm _ | apply And.intro)) rfl ⟨rfl, rfl, rfl, rfl, rfl, trivial, rfl, rfl⟩, ?_⟩; conv => whnf)
  repeat (first | refine gA ?_ | refine gB ?_ | refine gC rfl ?_ | refine gD rfl ?_ | ((first | refine gE env hN (by kernel_rfl) ?_ | refine gF ?_ | refine gG ?_ | refine gH fun hlen => ?_ | refine gI (by kernel_rfl) ?_ | refine gN rfl ?_ | refine gN (by omega) ?_ | refine gJ rfl ?_ | refine gK (by omega) ?_ | refine gL (by omega) ?_ | refine gK rfl ?_ | refine gO ?_ | refine gM ?_); conv => whnf))
  exact ret0 rfl rfl rfl
def blen (n : Nat) : Int := match n with
  | 0 => 0 | 1 => 1 | 2 => 2 | 3 => 2 | 4 => 3 | 5 => 3 | 6 => 3 | 7 => 3 | _ => 4
set_option maxRecDepth 20000 in
set_option maxHeartbeats 8000000 in
theorem len64_spec (n : Nat) (hn : n ≤ 12) : Spec Tryd.prog 126 [.int .u64 n] [] (.int .i64 (blen n)) [] := by
  have h : n = 0 ∨ n = 1 ∨ n = 2 ∨ n = 3 ∨ n = 4 ∨ n = 5 ∨ n = 6 ∨ n = 7 ∨ n = 8 ∨ n = 9 ∨ n = 10 ∨ n = 11 ∨ n = 12 := by omega
  clear hn
  rcases h with rfl | rfl | rfl | rfl | rfl | rfl | rfl | rfl | rfl | rfl | rfl | rfl | rfl
  all_goals
    refine Spec.body env Tryd.func126 rfl (by kernel_rfl) (Nat.le_of_ble_eq_true (by kernel_rfl)) (keysSub rfl) fun Γ hN hK => ?_; have hML : maxLen = 9223372036854775807 := by unfold maxLen; rfl
    repeat (first | refine gA ?_ | refine gB ?_ | refine gC rfl ?_ | refine gD rfl ?_ | ((first | refine gE env hN (by kernel_rfl) ?_ | refine gF ?_ | refine gG ?_ | refine gH fun hlen => ?_ | refine gI (by kernel_rfl) ?_ | refine gN rfl ?_ | refine gN (by omega) ?_ | refine gJ rfl ?_ | refine gK (by omega) ?_ | refine gL (by omega) ?_ | refine gK rfl ?_ | refine gO ?_); conv => whnf))
    refine ⟨by decide, ?_⟩
    conv => whnf
    repeat (first | refine gA ?_ | refine gB ?_ | refine gC rfl ?_ | refine gD rfl ?_ | ((first | refine gE env hN (by kernel_rfl) ?_ | refine gF ?_ | refine gG ?_ | refine gH fun hlen => ?_ | refine gI (by kernel_rfl) ?_ | refine gN rfl ?_ | refine gN (by omega) ?_ | refine gJ rfl ?_ | refine gK (by omega) ?_ | refine gL (by omega) ?_ | refine gK rfl ?_ | refine gO ?_); conv => whnf))
    refine ⟨by decide, ?_⟩
    conv => whnf
    repeat (first | refine gA ?_ | refine gB ?_ | refine gC rfl ?_ | refine gD rfl ?_ | ((first | refine gE env hN (by kernel_rfl) ?_ | refine gF ?_ | refine gG ?_ | refine gH fun hlen => ?_ | refine gI (by kernel_rfl) ?_ | refine gN rfl ?_ | refine gN (by omega) ?_ | refine gJ rfl ?_ | refine gK (by omega) ?_ | refine gL (by omega) ?_ | refine gK rfl ?_ | refine gO ?_); conv => whnf))
    refine ⟨by decide, ?_⟩
    conv => whnf
    repeat (first | refine gA ?_ | refine gB ?_ | refine gC rfl ?_ | refine gD rfl ?_ | ((first | refine gE env hN (by kernel_rfl) ?_ | refine gF ?_ | refine gG ?_ | refine gH fun hlen => ?_ | refine gI (by kernel_rfl) ?_ | refine gN rfl ?_ | refine gN (by omega) ?_ | refine gJ rfl ?_ | refine gK (by omega) ?_ | refine gL (by omega) ?_ | refine gK rfl ?_ | refine gO ?_ | refine gM ?_); conv => whnf))
    exact ret0 rfl rfl rfl
set_option maxHeartbeats 1000000 in
theorem len_spec (n : Nat) (hn : n ≤ 12) : Spec Tryd.prog 101 [.int .u64 n] [] (.int .i64 (blen n)) [] := by
  have sp := len64_spec n hn
  refine Spec.body env Tryd.func101 rfl (by kernel_rfl) (Nat.le_of_ble_eq_true (by kernel_rfl)) (keysSub rfl) fun Γ hN hK => ?_; have hML : maxLen = 9223372036854775807 := by unfold maxLen; rfl
  repeat (first | refine gA ?_ | refine gB ?_ | refine gC rfl ?_ | refine gD rfl ?_ | ((first | refine gE env hN (by kernel_rfl) ?_ | refine gF ?_ | refine gG ?_ | refine gH fun hlen => ?_ | refine gI (by kernel_rfl) ?_ | refine gN rfl ?_ | refine gN (by omega) ?_ | refine gJ rfl ?_ | refine gK (by omega) ?_ | refine gL (by omega) ?_ | refine gK rfl ?_ | refine gO ?_); conv => whnf))
  (refine ⟨_, _, _, callG [] [] [] rfl rfl rfl (by kernel_rfl) (sp) (by repeat' (first | exact trivial | exact Lent.refl _ | exact Lent.norm _ | apply And.intro)) rfl ⟨rfl, rfl, rfl, rfl, rfl, trivial, rfl, rfl⟩, ?_⟩; conv => whnf)
  repeat (first | refine gA ?_ | refine gB ?_ | refine gC rfl ?_ | refine gD rfl ?_ | ((first | refine gE env hN (by kernel_rfl) ?_ | refine gF ?_ | refine gG ?_ | refine gH fun hlen => ?_ | refine gI (by kernel_rfl) ?_ | refine gN rfl ?_ | refine gN (by omega) ?_ | refine gJ rfl ?_ | refine gK (by omega) ?_ | refine gL (by omega) ?_ | refine gK rfl ?_ | refine gO ?_ | refine gM ?_); conv => whnf))
  exact ret0 rfl rfl rfl
def placeR (l : List Table) (id : Int) : Nat → Nat
  | 0 => 0
  | n + 1 => match l[n]? with
    | some x => if id < x.id then placeR l id n else n + 1
    | none => 0
def insR (l : List Table) (x : Table) : List Table := l.take (placeR l x.id l.length) ++ x :: l.drop (placeR l x.id l.length)
def sortT (l : List Table) : List Table := l.foldl insR []
theorem placeR_le (l : List Table) (id : Int) : ∀ n, placeR l id n ≤ n
  | 0 => Nat.le_refl _
  | n + 1 => by
    simp only [placeR]
    split
    · split
      · exact Nat.le_succ_of_le (placeR_le l id n)
      · exact Nat.le_refl _
    · exact Nat.zero_le _
theorem insR_len (l : List Table) (x : Table) : (insR l x).length = l.length + 1 := by
  have := placeR_le l x.id l.length
  simp [insR]; omega
theorem sortT_snoc (l : List Table) (x : Table) : sortT (l ++ [x]) = insR (sortT l) x := by simp [sortT]
theorem sortT_len (l : List Table) : (sortT l).length = l.length := by
  have h : ∀ (l s : List Table), (l.foldl insR s).length = s.length + l.length := by
    intro l
    induction l with
    | nil => simp
    | cons x l ih => intro s; simp only [List.foldl_cons, ih, insR_len, List.length_cons]; omega
  have := h l []
  simpa [sortT] using this
def mid (P : List Table) (x : Table) (j : Nat) (R : List Table) : List Table := P.take j ++ x :: (P.drop j ++ R)
theorem mid_end (P : List Table) (x : Table) (R : List Table) : mid P x P.length R = P ++ x :: R := by simp [mid]
set_option maxHeartbeats 8000000 in
theorem insertion_spec (l : List Table) (hl : 1 ≤ l.length) (hn : l.length ≤ 12) : Spec Tryd.prog 117 [.osl 0 0 0 (tblRows l).length (tblRows l).length, .int .i64 0, .int .i64 (tblRows l).length, .fn 67 []] [(0, .rows 3 (tblRows l) (some []))] (.tup []) [(0, .rows 3 (tblRows (sortT l)) (some []))] := by
  have hll := tblRows_len l
  have h1 : tblRows (sortT (l.take 1) ++ l.drop 1) = tblRows l := by
    cases l with
    | nil => simp at hl
    | cons x r => rfl
  refine Spec.body env Tryd.func117 rfl (by kernel_rfl) (Nat.le_of_ble_eq_true (by kernel_rfl)) (keysSub rfl) fun Γ hN hK => ?_; have hML : maxLen = 9223372036854775807 := by unfold maxLen; rfl
  repeat (first | refine gA ?_ | refine gB ?_ | refine gC rfl ?_ | refine gD rfl ?_ | ((first | refine gE env hN (by kernel_rfl) ?_ | refine gF ?_ | refine gG ?_ | refine gH fun hlen => ?_ | refine gI (by kernel_rfl) ?_ | refine gN rfl ?_ | refine gN (by omega) ?_ | refine gJ rfl ?_ | refine gK (by omega) ?_ | refine gL (by omega) ?_ | refine gK rfl ?_ | refine gO ?_); conv => whnf))
  refine W.loopG (fun n st => ∃ i : Nat, 1 ≤ i ∧ i ≤ l.length ∧ n = l.length - i ∧ st = ⟨[(0, .osl 0 0 0 (tblRows l).length (tblRows l).length), (1, .int .i64 0), (2, .int .i64 (tblRows l).length), (3, .fn 67 []), (8, .int .i64 i)], [(0, [.rows 3 (tblRows (sortT (l.take i) ++ l.drop i)) (some [])])], [0]⟩)
    (l.length - 1) _ ⟨1, by omega, hl, rfl, rfl⟩ ⟨[(0, 0)], [], [], LeG.mk' rfl rfl rfl (by repeat' (first | exact trivial | exact ⟨_, .refl _, rfl⟩ | apply And.intro)) (.cons 0 rfl rfl (.refl _) (congrArg (fun r => [Blk.rows 3 r (some [])]) h1) .nil) rfl rfl (by rw [hK]; rfl)⟩ ?_
  rintro n st ⟨i, hi1, hi, rfl, rfl⟩
  repeat (first | refine gA ?_ | refine gB ?_ | refine gC rfl ?_ | refine gD rfl ?_ | ((first | refine gE env hN (by kernel_rfl) ?_ | refine gF ?_ | refine gG ?_ | refine gH fun hlen => ?_ | refine gI (by kernel_rfl) ?_ | refine gN rfl ?_ | refine gN (by omega) ?_ | refine gJ rfl ?_ | refine gK (by omega) ?_ | refine gL (by omega) ?_ | refine gK rfl ?_ | refine gO ?_); conv => whnf))
  refine boolRes_split (fun hb => ?_) (fun hb => ?_) <;> conv => whnf
  · have hlt : i < l.length := by omega
    have hdr : l.drop i = l[i] :: l.drop (i + 1) := List.drop_eq_getElem_cons hlt
    have hs : sortT (l.take (i + 1)) = insR (sortT (l.take i)) l[i] := by rw [List.take_succ_eq_append_getElem hlt, sortT_snoc]
    have hpl : (sortT (l.take i)).length = i := by rw [sortT_len]; simp; omega
    have hrl : (l.drop (i + 1)).length = l.length - (i + 1) := by simp
    have htot : sortT (l.take i) ++ l.drop i = mid (sortT (l.take i)) l[i] i (l.drop (i + 1)) := by
      have h2 := mid_end (sortT (l.take i)) l[i] (l.drop (i + 1))
      rw [hpl] at h2
      rw [hdr, h2]
    have hend : sortT (l.take (i + 1)) ++ l.drop (i + 1) = mid (sortT (l.take i)) l[i] (placeR (sortT (l.take i)) l[i].id i) (l.drop (i + 1)) := by
      rw [hs]; unfold mid insR; rw [hpl]; simp
    rw [htot]
    generalize sortT (l.take i) = P at *
    generalize l[i] = x at *
    repeat (first | refine gA ?_ | refine gB ?_ | refine gC rfl ?_ | refine gD rfl ?_ | ((first | refine gE env hN (by kernel_rfl) ?_ | refine gF ?_ | refine gG ?_ | refine gH fun hlen => ?_ | refine gI (by kernel_rfl) ?_ | refine gN rfl ?_ | refine gN (by omega) ?_ | refine gJ rfl ?_ | refine gK (by omega) ?_ | refine gL (by omega) ?_ | refine gK rfl ?_ | refine gO ?_); conv => whnf))
    refine W.loopG (fun n st => ∃ j : Nat, j ≤ i ∧ placeR P x.id i = placeR P x.id j ∧ n = j ∧ st = ⟨[(0, .osl 0 0 0 (tblRows l).length (tblRows l).length), (1, .int .i64 0), (2, .int .i64 (tblRows l).length), (3, .fn 67 []), (8, .int .i64 i), (9, .int .i64 j)], [(0, [.rows 3 (tblRows (mid P x j (l.drop (i + 1)))) (some [])])], [0]⟩)
      i _ ⟨i, by omega, rfl, rfl, rfl⟩ ⟨[(0, 0)], [], [], LeG.mk' rfl rfl rfl (by repeat' (first | exact trivial | exact ⟨_, .refl _, rfl⟩ | apply And.intro)) (.cons 0 rfl rfl (.refl _) rfl .nil) rfl rfl (by rw [hK]; rfl)⟩ ?_
    rintro n st ⟨j, hj, hpj, hnj, rfl⟩
    have hmlen : (mid P x j (l.drop (i + 1))).length = l.length := by simp [mid]; omega
    have hml := tblRows_len (mid P x j (l.drop (i + 1)))
    repeat (first | refine gA ?_ | refine gB ?_ | refine gC rfl ?_ | refine gD rfl ?_ | ((first | refine gE env hN (by kernel_rfl) ?_ | refine gF ?_ | refine gG ?_ | refine gH fun hlen => ?_ | refine gI (by kernel_rfl) ?_ | refine gN rfl ?_ | refine gN (by omega) ?_ | refine gJ rfl ?_ | refine gK (by omega) ?_ | refine gL (by omega) ?_ | refine gK rfl ?_ | refine gO ?_); conv => whnf))
    refine boolRes_split (fun hb => ?_) (fun hb => ?_) <;> conv => whnf
    · obtain ⟨p, rfl⟩ : ∃ p, j = p + 1 := ⟨j - 1, by omega⟩
      have hpP : p < P.length := by omega
      have g1 : (mid P x (p + 1) (l.drop (i + 1)))[p + 1]? = some x := by
        unfold mid
        rw [List.getElem?_append_right (by simp; omega)]
        simp only [List.length_take]
        rw [show p + 1 - min (p + 1) P.length = 0 by omega]
        rfl
      have g2 : (mid P x (p + 1) (l.drop (i + 1)))[p]? = some P[p] := by
        unfold mid
        rw [List.getElem?_append_left (by simp; omega), List.getElem?_take]
        simp [hpP]
      have g3 : placeR P x.id (p + 1) = if x.id < P[p].id then placeR P x.id p else p + 1 := by
        simp only [placeR, List.getElem?_eq_getElem hpP]
      have hsw : ((mid P x (p + 1) (l.drop (i + 1))).set (p + 1) P[p]).set p x = mid P x p (l.drop (i + 1)) := by
        have e1 : mid P x (p + 1) (l.drop (i + 1)) = P.take p ++ P[p] :: x :: (P.drop (p + 1) ++ (l.drop (i + 1))) := by unfold mid; rw [List.take_succ_eq_append_getElem hpP, List.append_assoc]; rfl
        have e2 : mid P x p (l.drop (i + 1)) = P.take p ++ x :: P[p] :: (P.drop (p + 1) ++ (l.drop (i + 1))) := by unfold mid; rw [List.drop_eq_getElem_cons hpP]; rfl
        have e3 : (P.take p).length = p := by simp; omega
        rw [e1, e2, List.set_append_right _ _ (by omega), List.set_append_right _ _ (by omega), e3, show p + 1 - p = 1 by omega, Nat.sub_self]
        rfl
      have r1 : (tblRows (mid P x (p + 1) (l.drop (i + 1))))[p + 1]? = some x.row := by simp [tblRows, g1]
      have r2 : (tblRows (mid P x (p + 1) (l.drop (i + 1))))[p]? = some P[p].row := by simp [tblRows, g2]
      have sp := byId_spec x P[p]
      generalize P[p] = y at *
      repeat (first | refine gA ?_ | refine gB ?_ | refine gC rfl ?_ | refine gD rfl ?_ | ((first | refine gE env hN (by kernel_rfl) ?_ | refine gF ?_ | refine gG ?_ | refine gH fun hlen => ?_ | refine gI (by kernel_rfl) ?_ | refine gN rfl ?_ | refine gN (by omega) ?_ | refine gJ rfl ?_ | refine gK (by omega) ?_ | refine gL (by omega) ?_ | refine gK rfl ?_ | refine gO ?_); conv => whnf))
      refine rowAt_of (by simpa using r1) ?_
      conv => whnf
      repeat (first | refine gA ?_ | refine gB ?_ | refine gC rfl ?_ | refine gD rfl ?_ | ((first | refine gE env hN (by kernel_rfl) ?_ | refine gF ?_ | refine gG ?_ | refine gH fun hlen => ?_ | refine gI (by kernel_rfl) ?_ | refine gN rfl ?_ | refine gN (by omega) ?_ | refine gJ rfl ?_ | refine gK (by omega) ?_ | refine gL (by omega) ?_ | refine gK rfl ?_ | refine gO ?_); conv => whnf))
      refine rowAt_of (r := y.row) (by simpa using r2) ?_
      conv => whnf
      repeat (first | refine gA ?_ | refine gB ?_ | refine gC rfl ?_ | refine gD rfl ?_ | ((first | refine gE env hN (by kernel_rfl) ?_ | refine gF ?_ | refine gG ?_ | refine gH fun hlen => ?_ | refine gI (by kernel_rfl) ?_ | refine gN rfl ?_ | refine gN (by omega) ?_ | refine gJ rfl ?_ | refine gK (by omega) ?_ | refine gL (by omega) ?_ | refine gK rfl ?_ | refine gO ?_); conv => whnf))
      (refine ⟨_, _, _, callG [] [] [] rfl rfl rfl (by kernel_rfl) (sp) (by repeat' (first | exact trivial | exact Lent.refl _ | exact Lent.norm _ | apply And.intro)) rfl ⟨rfl, rfl, rfl, rfl, rfl, trivial, rfl, rfl⟩, ?_⟩; conv => whnf)
      repeat (first | refine gA ?_ | refine gB ?_ | refine gC rfl ?_ | refine gD rfl ?_ | ((first | refine gE env hN (by kernel_rfl) ?_ | refine gF ?_ | refine gG ?_ | refine gH fun hlen => ?_ | refine gI (by kernel_rfl) ?_ | refine gN rfl ?_ | refine gN (by omega) ?_ | refine gJ rfl ?_ | refine gK (by omega) ?_ | refine gL (by omega) ?_ | refine gK rfl ?_ | refine gO ?_); conv => whnf))
      have hc : cmpI x.id y.id < 0 ↔ x.id < y.id := by
        unfold cmpI
        split
        · simp; omega
        · split <;> simp <;> omega
      refine boolRes_split (fun hb2 => ?_) (fun hb2 => ?_) <;> conv => whnf
      · have hlt2 := hc.1 hb2
        rw [if_pos hlt2] at g3
        repeat (first | refine gA ?_ | refine gB ?_ | refine gC rfl ?_ | refine gD rfl ?_ | ((first | refine gE env hN (by kernel_rfl) ?_ | refine gF ?_ | refine gG ?_ | refine gH fun hlen => ?_ | refine gI (by kernel_rfl) ?_ | refine gN rfl ?_ | refine gN (by omega) ?_ | refine gJ rfl ?_ | refine gK (by omega) ?_ | refine gL (by omega) ?_ | refine gK rfl ?_ | refine gO ?_); conv => whnf))
        refine rowAt_of (r := y.row) (by simpa using r2) ?_
        conv => whnf
        repeat (first | refine gA ?_ | refine gB ?_ | refine gC rfl ?_ | refine gD rfl ?_ | ((first | refine gE env hN (by kernel_rfl) ?_ | refine gF ?_ | refine gG ?_ | refine gH fun hlen => ?_ | refine gI (by kernel_rfl) ?_ | refine gN rfl ?_ | refine gN (by omega) ?_ | refine gJ rfl ?_ | refine gK (by omega) ?_ | refine gL (by omega) ?_ | refine gK rfl ?_ | refine gO ?_); conv => whnf))
        refine rowAt_of (by simpa using r1) ?_
        conv => whnf
        repeat (first | refine gA ?_ | refine gB ?_ | refine gC rfl ?_ | refine gD rfl ?_ | ((first | refine gE env hN (by kernel_rfl) ?_ | refine gF ?_ | refine gG ?_ | refine gH fun hlen => ?_ | refine gI (by kernel_rfl) ?_ | refine gN rfl ?_ | refine gN (by omega) ?_ | refine gJ rfl ?_ | refine gK (by omega) ?_ | refine gL (by omega) ?_ | refine gK rfl ?_ | refine gO ?_); conv => whnf))
        refine rowAt_of (r := x.row) (by simpa using r1) ?_
        conv => whnf
        repeat (first | refine gA ?_ | refine gB ?_ | refine gC rfl ?_ | refine gD rfl ?_ | ((first | refine gE env hN (by kernel_rfl) ?_ | refine gF ?_ | refine gG ?_ | refine gH fun hlen => ?_ | refine gI (by kernel_rfl) ?_ | refine gN rfl ?_ | refine gN (by omega) ?_ | refine gJ rfl ?_ | refine gK (by omega) ?_ | refine gL (by omega) ?_ | refine gK rfl ?_ | refine gO ?_); conv => whnf))
        refine ⟨by rw [List.length_set, hml]; omega, ⟨by omega, by omega⟩, ?_⟩
        conv => whnf
        repeat (first | refine gA ?_ | refine gB ?_ | refine gC rfl ?_ | refine gD rfl ?_ | ((first | refine gE env hN (by kernel_rfl) ?_ | refine gF ?_ | refine gG ?_ | refine gH fun hlen => ?_ | refine gI (by kernel_rfl) ?_ | refine gN rfl ?_ | refine gN (by omega) ?_ | refine gJ rfl ?_ | refine gK (by omega) ?_ | refine gL (by omega) ?_ | refine gK rfl ?_ | refine gO ?_); conv => whnf))
        refine ⟨by rw [List.length_set, hml]; omega, ?_⟩
        refine rowAt_of (r := y.row) (by rw [List.getElem?_set]; split; (exfalso; omega); simpa using r2) ?_
        conv => whnf
        repeat (first | refine gA ?_ | refine gB ?_ | refine gC rfl ?_ | refine gD rfl ?_ | ((first | refine gE env hN (by kernel_rfl) ?_ | refine gF ?_ | refine gG ?_ | refine gH fun hlen => ?_ | refine gI (by kernel_rfl) ?_ | refine gN rfl ?_ | refine gN (by omega) ?_ | refine gJ rfl ?_ | refine gK (by omega) ?_ | refine gL (by omega) ?_ | refine gK rfl ?_ | refine gO ?_); conv => whnf))
        have hset : tblRows (mid P x p (l.drop (i + 1))) = ((tblRows (mid P x (p + 1) (l.drop (i + 1)))).set (0 + ((p + 1 : Nat) : Int).toNat) y.row).set (0 + (((p + 1 : Nat) : Int) - 1).toNat) x.row := by
          rw [← hsw, show 0 + ((p + 1 : Nat) : Int).toNat = p + 1 by omega, show 0 + (((p + 1 : Nat) : Int) - 1).toNat = p by omega]
          simp [tblRows, List.map_set]
        refine ⟨_, _, ?_, ⟨p, by omega, by rw [hpj, g3], rfl, rfl⟩, [(0, 0)], [], [], LeG.mk' rfl rfl rfl (by repeat' (first | exact trivial | exact ⟨_, .refl _, rfl⟩ | exact ⟨_, .refl _, congrArg (V.int .i64) (by omega)⟩ | apply And.intro)) (.cons 0 rfl rfl (.refl _) (congrArg (fun r => [Blk.rows 3 r (some [])]) hset) .nil) rfl rfl (by rw [hK]; rfl)⟩
        omega
      · have hpe : placeR P x.id (p + 1) = p + 1 := by rw [g3, if_neg (fun h => hb2 (hc.2 h))]
        rw [hpj, hpe] at hend
        repeat (first | refine gA ?_ | refine gB ?_ | refine gC rfl ?_ | refine gD rfl ?_ | ((first | refine gE env hN (by kernel_rfl) ?_ | refine gF ?_ | refine gG ?_ | refine gH fun hlen => ?_ | refine gI (by kernel_rfl) ?_ | refine gN rfl ?_ | refine gN (by omega) ?_ | refine gJ rfl ?_ | refine gK (by omega) ?_ | refine gL (by omega) ?_ | refine gK rfl ?_ | refine gO ?_); conv => whnf))
        refine ⟨_, _, ?_, ⟨i + 1, by omega, by omega, rfl, rfl⟩, [(0, 0)], [], [], LeG.mk' rfl rfl rfl (by repeat' (first | exact trivial | exact ⟨_, .refl _, rfl⟩ | apply And.intro)) (.cons 0 rfl rfl (.refl _) (congrArg (fun r => [Blk.rows 3 (tblRows r) (some [])]) hend) .nil) rfl rfl (by rw [hK]; rfl)⟩
        omega
    · skip
      have hj0 : j = 0 := by omega
      have hpe : placeR P x.id j = j := by rw [hj0]; rfl
      rw [hpj, hpe] at hend
      repeat (first | refine gA ?_ | refine gB ?_ | refine gC rfl ?_ | refine gD rfl ?_ | ((first | refine gE env hN (by kernel_rfl) ?_ | refine gF ?_ | refine gG ?_ | refine gH fun hlen => ?_ | refine gI (by kernel_rfl) ?_ | refine gN rfl ?_ | refine gN (by omega) ?_ | refine gJ rfl ?_ | refine gK (by omega) ?_ | refine gL (by omega) ?_ | refine gK rfl ?_ | refine gO ?_); conv => whnf))
      refine ⟨_, _, ?_, ⟨i + 1, by omega, by omega, rfl, rfl⟩, [(0, 0)], [], [], LeG.mk' rfl rfl rfl (by repeat' (first | exact trivial | exact ⟨_, .refl _, rfl⟩ | apply And.intro)) (.cons 0 rfl rfl (.refl _) (congrArg (fun r => [Blk.rows 3 (tblRows r) (some [])]) hend) .nil) rfl rfl (by rw [hK]; rfl)⟩
      omega
  · have hie : i = l.length := by omega
    have hfin : sortT (l.take i) ++ l.drop i = sortT l := by rw [hie, List.take_length, List.drop_length, List.append_nil]
    rw [hfin]
    repeat (first | refine gA ?_ | refine gB ?_ | refine gC rfl ?_ | refine gD rfl ?_ | ((first | refine gE env hN (by kernel_rfl) ?_ | refine gF ?_ | refine gG ?_ | refine gH fun hlen => ?_ | refine gI (by kernel_rfl) ?_ | refine gN rfl ?_ | refine gN (by omega) ?_ | refine gJ rfl ?_ | refine gK (by omega) ?_ | refine gL (by omega) ?_ | refine gK rfl ?_ | refine gO ?_); conv => whnf))
    exact retHn rfl (.refl _) rfl rfl rfl ⟨rfl, rfl, trivial⟩
end Go.Sx.Sp
