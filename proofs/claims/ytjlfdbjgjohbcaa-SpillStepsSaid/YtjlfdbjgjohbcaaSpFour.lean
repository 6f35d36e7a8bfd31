/- What Merge and SameCounts compute, and what holds of counts. -/
import Derived.Test.YtjlfdbjgjohbcaaSpThree
set_option linter.unusedVariables false
set_option linter.unusedSimpArgs false
namespace Go.Sx.Sp
open Go Go.Sx Go.Proofs
attribute [local irreducible] GoodW
set_option maxHeartbeats 2000000 in
theorem changedMerge_spec (s : Spill) (a b : List Count) (r : List (List Count)) (he : s.runs = a :: b :: r) (hla : a.length ≤ 4294967296) (hlb : b.length ≤ 4294967296) (hlr : r.length ≤ 4294967296) (hca : Counts a) (hcb : Counts b) (hs : s.Small) (hw : 0 ≤ s.written ∧ s.written ≤ 2305843009213693952) (hs' : s.merge.Small) (h : s.valid = true) :
    Spec Try.prog 35 [s.v, .fn 41 []] [] (.tup [s.merge.v, .int .i64 0]) [] := by
  have sp := valid_spec s
  rw [h] at sp
  refine Spec.body env Try.func35 rfl (by kernel_rfl) (Nat.le_of_ble_eq_true (by kernel_rfl)) (keysSub rfl) fun Γ hN hK => ?_; have hML : maxLen = 9223372036854775807 := by unfold maxLen; rfl
  repeat (first | refine W.seq ?_ | (refine W.reg env hN (by kernel_rfl) ?_; conv => whnf) | refine W.condT rfl ?_ | refine W.condF rfl ?_ | (refine W.skip ?_; conv => whnf) | (refine W.exit ?_; conv => whnf) | refine W.block ?_ | (refine fun (hlen : (_ : Nat) ≤ _) => ?_; conv => whnf) | (refine okFp_intro (by kernel_rfl) ?_; conv => whnf) | (refine And.intro rfl ?_; conv => whnf) | (refine And.intro (by omega) ?_; conv => whnf) | (refine rowAt_of rfl ?_; conv => whnf) | (refine boolRes_true (by omega) ?_; conv => whnf) | (refine boolRes_false (by omega) ?_; conv => whnf) | (refine boolRes_true rfl ?_; conv => whnf))
  (refine ⟨_, _, _, callG [] [] [] rfl rfl rfl (by kernel_rfl) (sp) (by repeat' (first | exact trivial | exact Lent.refl _ | exact Lent.norm _ | apply And.intro)) rfl ⟨rfl, rfl, rfl, rfl, rfl, by repeat' (first | exact trivial | rfl | apply And.intro), rfl, rfl⟩, ?_⟩; conv => whnf)
  repeat (first | refine W.seq ?_ | (refine W.reg env hN (by kernel_rfl) ?_; conv => whnf) | refine W.condT rfl ?_ | refine W.condF rfl ?_ | (refine W.skip ?_; conv => whnf) | (refine W.exit ?_; conv => whnf) | refine W.block ?_ | (refine fun (hlen : (_ : Nat) ≤ _) => ?_; conv => whnf) | (refine okFp_intro (by kernel_rfl) ?_; conv => whnf) | (refine And.intro rfl ?_; conv => whnf) | (refine And.intro (by omega) ?_; conv => whnf) | (refine rowAt_of rfl ?_; conv => whnf) | (refine boolRes_true (by omega) ?_; conv => whnf) | (refine boolRes_false (by omega) ?_; conv => whnf) | (refine boolRes_true rfl ?_; conv => whnf))
  (refine ⟨_, _, _, callG [] [(1, 12), (7, 112), (11, 113)] [] rfl rfl rfl (by kernel_rfl) (own_own s hs) (by repeat' (first | exact trivial | exact Lent.refl _ | exact Lent.norm _ | apply And.intro)) rfl ⟨rfl, rfl, rfl, rfl, rfl, by repeat' (first | exact trivial | rfl | apply And.intro), rfl, rfl⟩, ?_⟩; conv => whnf)
  repeat (first | refine W.seq ?_ | (refine W.reg env hN (by kernel_rfl) ?_; conv => whnf) | refine W.condT rfl ?_ | refine W.condF rfl ?_ | (refine W.skip ?_; conv => whnf) | (refine W.exit ?_; conv => whnf) | refine W.block ?_ | (refine fun (hlen : (_ : Nat) ≤ _) => ?_; conv => whnf) | (refine okFp_intro (by kernel_rfl) ?_; conv => whnf) | (refine And.intro rfl ?_; conv => whnf) | (refine And.intro (by omega) ?_; conv => whnf) | (refine rowAt_of rfl ?_; conv => whnf) | (refine boolRes_true (by omega) ?_; conv => whnf) | (refine boolRes_false (by omega) ?_; conv => whnf) | (refine boolRes_true rfl ?_; conv => whnf))
  (refine ⟨_, _, _, callG [(0, 12), (1, 112), (2, 113)] [(24, 114)] [] rfl rfl rfl (by kernel_rfl) (mergeOwn_spec s a b r he hla hlb hlr hca hcb hw) (by repeat' (first | exact trivial | exact Lent.refl _ | exact Lent.norm _ | apply And.intro)) rfl ⟨rfl, rfl, rfl, rfl, rfl, by repeat' (first | exact trivial | rfl | apply And.intro), rfl, rfl⟩, ?_⟩; conv => whnf)
  refine W.leG (mp := [(4, 4), (12, 12)]) (bo := [112, 114]) (st' := ⟨[(6, .bp 12 0), (4, .bp 4 0)], [(4, [.rows 5 [[.int .i64 0, .nils, .nils, .int .i64 0, .int .i64 0]] none]), (12, [s.merge.blk])], [4, 12]⟩)
    (LeG.mk' rfl rfl rfl (by repeat' (first | exact trivial | exact ⟨_, .refl _, rfl⟩ | apply And.intro)) (.cons 4 rfl rfl (.refl _) rfl (.cons 12 (b1 := s.merge.blk) rfl rfl (.rows _ _ _ (by repeat' (first | exact trivial | exact ⟨Lent.refl _, rfl⟩ | exact ⟨Lent.norm _, rfl⟩ | exact ⟨Lent.whole rfl rfl (by first | rfl | simp) rfl (by first | exact .inl rfl | exact .inr rfl), rfl⟩ | apply And.intro))) rfl .nil)) rfl rfl (by rw [hK]; rfl)) ?_
  repeat (first | refine W.seq ?_ | (refine W.reg env hN (by kernel_rfl) ?_; conv => whnf) | refine W.condT rfl ?_ | refine W.condF rfl ?_ | (refine W.skip ?_; conv => whnf) | (refine W.exit ?_; conv => whnf) | refine W.block ?_ | (refine fun (hlen : (_ : Nat) ≤ _) => ?_; conv => whnf) | (refine okFp_intro (by kernel_rfl) ?_; conv => whnf) | (refine And.intro rfl ?_; conv => whnf) | (refine And.intro (by omega) ?_; conv => whnf) | (refine rowAt_of rfl ?_; conv => whnf) | (refine boolRes_true (by omega) ?_; conv => whnf) | (refine boolRes_false (by omega) ?_; conv => whnf) | (refine boolRes_true rfl ?_; conv => whnf))
  (refine ⟨_, _, _, callG [] [(1, 19)] [] rfl rfl rfl (by kernel_rfl) (own_data s.merge hs') (by repeat' (first | exact trivial | exact Lent.refl _ | exact Lent.norm _ | apply And.intro)) rfl ⟨rfl, rfl, rfl, rfl, rfl, by repeat' (first | exact trivial | rfl | apply And.intro), rfl, rfl⟩, ?_⟩; conv => whnf)
  repeat (first | refine W.seq ?_ | (refine W.reg env hN (by kernel_rfl) ?_; conv => whnf) | refine W.condT rfl ?_ | refine W.condF rfl ?_ | (refine W.skip ?_; conv => whnf) | (refine W.exit ?_; conv => whnf) | refine W.block ?_ | (refine fun (hlen : (_ : Nat) ≤ _) => ?_; conv => whnf) | (refine okFp_intro (by kernel_rfl) ?_; conv => whnf) | (refine And.intro rfl ?_; conv => whnf) | (refine And.intro (by omega) ?_; conv => whnf) | (refine rowAt_of rfl ?_; conv => whnf) | (refine boolRes_true (by omega) ?_; conv => whnf) | (refine boolRes_false (by omega) ?_; conv => whnf) | (refine boolRes_true rfl ?_; conv => whnf) | (refine W.ret ?_; conv => whnf))
  exact ret0 rfl rfl rfl
set_option maxHeartbeats 2000000 in
theorem Merge_spec (s : Spill) (a b : List Count) (r : List (List Count)) (he : s.runs = a :: b :: r) (hla : a.length ≤ 4294967296) (hlb : b.length ≤ 4294967296) (hlr : r.length ≤ 4294967296) (hca : Counts a) (hcb : Counts b) (hs : s.Small) (hw : 0 ≤ s.written ∧ s.written ≤ 2305843009213693952) (hs' : s.merge.Small) (h : s.valid = true) :
    Spec Try.prog 17 [s.v] [] (.tup [s.merge.v, .int .i64 0]) [] := by
  have sp := valid_spec s
  rw [h] at sp
  have hrl : (runRows s.runs).length = r.length + 2 := by rw [runRows_len, he]; rfl
  refine Spec.body env Try.func17 rfl (by kernel_rfl) (Nat.le_of_ble_eq_true (by kernel_rfl)) (keysSub rfl) fun Γ hN hK => ?_; have hML : maxLen = 9223372036854775807 := by unfold maxLen; rfl
  repeat (first | refine W.seq ?_ | (refine W.reg env hN (by kernel_rfl) ?_; conv => whnf) | refine W.condT rfl ?_ | refine W.condF rfl ?_ | (refine W.skip ?_; conv => whnf) | (refine W.exit ?_; conv => whnf) | refine W.block ?_ | (refine fun (hlen : (_ : Nat) ≤ _) => ?_; conv => whnf) | (refine okFp_intro (by kernel_rfl) ?_; conv => whnf) | (refine And.intro rfl ?_; conv => whnf) | (refine And.intro (by omega) ?_; conv => whnf) | (refine rowAt_of rfl ?_; conv => whnf) | (refine boolRes_true (by omega) ?_; conv => whnf) | (refine boolRes_false (by omega) ?_; conv => whnf) | (refine boolRes_true rfl ?_; conv => whnf))
  (refine ⟨_, _, _, callG [] [] [] rfl rfl rfl (by kernel_rfl) (sp) (by repeat' (first | exact trivial | exact Lent.refl _ | exact Lent.norm _ | apply And.intro)) rfl ⟨rfl, rfl, rfl, rfl, rfl, by repeat' (first | exact trivial | rfl | apply And.intro), rfl, rfl⟩, ?_⟩; conv => whnf)
  repeat (first | refine W.seq ?_ | (refine W.reg env hN (by kernel_rfl) ?_; conv => whnf) | refine W.condT rfl ?_ | refine W.condF rfl ?_ | (refine W.skip ?_; conv => whnf) | (refine W.exit ?_; conv => whnf) | refine W.block ?_ | (refine fun (hlen : (_ : Nat) ≤ _) => ?_; conv => whnf) | (refine okFp_intro (by kernel_rfl) ?_; conv => whnf) | (refine And.intro rfl ?_; conv => whnf) | (refine And.intro (by omega) ?_; conv => whnf) | (refine rowAt_of rfl ?_; conv => whnf) | (refine boolRes_true (by omega) ?_; conv => whnf) | (refine boolRes_false (by omega) ?_; conv => whnf) | (refine boolRes_true rfl ?_; conv => whnf))
  (refine ⟨_, _, _, callG [] [] [] rfl rfl rfl (by kernel_rfl) (changedMerge_spec s a b r he hla hlb hlr hca hcb hs hw hs' h) (by repeat' (first | exact trivial | exact Lent.refl _ | exact Lent.norm _ | apply And.intro)) rfl ⟨rfl, rfl, rfl, rfl, rfl, by repeat' (first | exact trivial | rfl | apply And.intro), rfl, rfl⟩, ?_⟩; conv => whnf)
  repeat (first | refine W.seq ?_ | (refine W.reg env hN (by kernel_rfl) ?_; conv => whnf) | refine W.condT rfl ?_ | refine W.condF rfl ?_ | (refine W.skip ?_; conv => whnf) | (refine W.exit ?_; conv => whnf) | refine W.block ?_ | (refine fun (hlen : (_ : Nat) ≤ _) => ?_; conv => whnf) | (refine okFp_intro (by kernel_rfl) ?_; conv => whnf) | (refine And.intro rfl ?_; conv => whnf) | (refine And.intro (by omega) ?_; conv => whnf) | (refine rowAt_of rfl ?_; conv => whnf) | (refine boolRes_true (by omega) ?_; conv => whnf) | (refine boolRes_false (by omega) ?_; conv => whnf) | (refine boolRes_true rfl ?_; conv => whnf) | (refine W.ret ?_; conv => whnf))
  exact ret0 rfl rfl rfl
set_option maxHeartbeats 2000000 in
theorem MergeFew_spec (s : Spill) (hr : s.runs.length < 2) (h : s.valid = true) : Spec Try.prog 17 [s.v] [] (.tup [Spill.zero.v, .int .i64 7]) [] := by
  have sp := valid_spec s
  rw [h] at sp
  have hrl := runRows_len s.runs
  refine Spec.body env Try.func17 rfl (by kernel_rfl) (Nat.le_of_ble_eq_true (by kernel_rfl)) (keysSub rfl) fun Γ hN hK => ?_; have hML : maxLen = 9223372036854775807 := by unfold maxLen; rfl
  repeat (first | refine W.seq ?_ | (refine W.reg env hN (by kernel_rfl) ?_; conv => whnf) | refine W.condT rfl ?_ | refine W.condF rfl ?_ | (refine W.skip ?_; conv => whnf) | (refine W.exit ?_; conv => whnf) | refine W.block ?_ | (refine fun (hlen : (_ : Nat) ≤ _) => ?_; conv => whnf) | (refine okFp_intro (by kernel_rfl) ?_; conv => whnf) | (refine And.intro rfl ?_; conv => whnf) | (refine And.intro (by omega) ?_; conv => whnf) | (refine rowAt_of rfl ?_; conv => whnf) | (refine boolRes_true (by omega) ?_; conv => whnf) | (refine boolRes_false (by omega) ?_; conv => whnf) | (refine boolRes_true rfl ?_; conv => whnf))
  (refine ⟨_, _, _, callG [] [] [] rfl rfl rfl (by kernel_rfl) (sp) (by repeat' (first | exact trivial | exact Lent.refl _ | exact Lent.norm _ | apply And.intro)) rfl ⟨rfl, rfl, rfl, rfl, rfl, by repeat' (first | exact trivial | rfl | apply And.intro), rfl, rfl⟩, ?_⟩; conv => whnf)
  repeat (first | refine W.seq ?_ | (refine W.reg env hN (by kernel_rfl) ?_; conv => whnf) | refine W.condT rfl ?_ | refine W.condF rfl ?_ | (refine W.skip ?_; conv => whnf) | (refine W.exit ?_; conv => whnf) | refine W.block ?_ | (refine fun (hlen : (_ : Nat) ≤ _) => ?_; conv => whnf) | (refine okFp_intro (by kernel_rfl) ?_; conv => whnf) | (refine And.intro rfl ?_; conv => whnf) | (refine And.intro (by omega) ?_; conv => whnf) | (refine rowAt_of rfl ?_; conv => whnf) | (refine boolRes_true (by omega) ?_; conv => whnf) | (refine boolRes_false (by omega) ?_; conv => whnf) | (refine boolRes_true rfl ?_; conv => whnf) | (refine W.ret ?_; conv => whnf))
  exact ret0 rfl rfl rfl
theorem counts_same {N : Nat} {o : Oper} {h : Nat → List Blk} {ρ : Operand → V} {t' : Nat} {x y : Operand} (hop : o.op = .binOp .neq 44 x y t') (c : Count) (hx : ρ x = .agg c.row) (hy : ρ y = .agg c.row) (hd : dstOK N o.dst = true) : GoodW Try.prog N o ρ h (.bool false) [] [] := by
  have h1 := agg2_good (P := Try.prog) (N := N) (h := h) (ρ := ρ) (op := .neq) hop (.inr rfl) Try.underlying44 (by kernel_rfl) (by kernel_rfl) (by kernel_rfl) (by kernel_rfl) rfl rfl Try.underlying9 Try.underlying3 (a := c.text) (b := c.text) (n := c.count) (m := c.count) hx hy
  simp only [and_self, decide_true, Bool.not_true] at h1
  exact h1.toW hd
set_option maxHeartbeats 2000000 in
theorem same_spec (l : List Count) : Spec Try.prog 18 [.sl (countRows l) false, .sl (countRows l) false] [] (.bool true) [] := by
  have hcl := countRows_len l
  refine Spec.body env Try.func18 rfl (by kernel_rfl) (Nat.le_of_ble_eq_true (by kernel_rfl)) (keysSub rfl) fun Γ hN hK => ?_; have hML : maxLen = 9223372036854775807 := by unfold maxLen; rfl
  repeat (first | refine W.seq ?_ | (refine W.reg env hN (by kernel_rfl) ?_; conv => whnf) | refine W.condT rfl ?_ | refine W.condF rfl ?_ | (refine W.skip ?_; conv => whnf) | (refine W.exit ?_; conv => whnf) | refine W.block ?_ | (refine fun (hlen : (_ : Nat) ≤ _) => ?_; conv => whnf) | (refine okFp_intro (by kernel_rfl) ?_; conv => whnf) | (refine And.intro rfl ?_; conv => whnf) | (refine And.intro (by omega) ?_; conv => whnf) | (refine rowAt_of rfl ?_; conv => whnf) | (refine boolRes_true (by omega) ?_; conv => whnf) | (refine boolRes_false (by omega) ?_; conv => whnf) | (refine boolRes_true rfl ?_; conv => whnf))
  refine W.loopG (fun n st => ∃ k : Nat, k ≤ l.length ∧ n = l.length - k ∧ st = ⟨[(0, .sl (countRows l) false), (1, .sl (countRows l) false), (12, .int .i64 (countRows l).length), (13, .int .i64 k)], [], []⟩)
    l.length _ ⟨0, by omega, rfl, rfl⟩ ⟨[], [], [], LeG.mk' rfl rfl rfl (by repeat' (first | exact trivial | exact ⟨_, .refl _, rfl⟩ | apply And.intro)) .nil rfl rfl (by rw [hK]; rfl)⟩ ?_
  rintro n st ⟨k, hk, rfl, rfl⟩
  repeat (first | refine W.seq ?_ | (refine W.reg env hN (by kernel_rfl) ?_; conv => whnf) | refine W.condT rfl ?_ | refine W.condF rfl ?_ | (refine W.skip ?_; conv => whnf) | (refine W.exit ?_; conv => whnf) | refine W.block ?_ | (refine fun (hlen : (_ : Nat) ≤ _) => ?_; conv => whnf) | (refine okFp_intro (by kernel_rfl) ?_; conv => whnf) | (refine And.intro rfl ?_; conv => whnf) | (refine And.intro (by omega) ?_; conv => whnf) | (refine rowAt_of rfl ?_; conv => whnf) | (refine boolRes_true (by omega) ?_; conv => whnf) | (refine boolRes_false (by omega) ?_; conv => whnf) | (refine boolRes_true rfl ?_; conv => whnf))
  refine boolRes_split (fun hb => ?_) (fun hb => ?_) <;> conv => whnf
  · have hlt : k < l.length := by omega
    repeat (first | refine W.seq ?_ | (refine W.reg env hN (by kernel_rfl) ?_; conv => whnf) | refine W.condT rfl ?_ | refine W.condF rfl ?_ | (refine W.skip ?_; conv => whnf) | (refine W.exit ?_; conv => whnf) | refine W.block ?_ | (refine fun (hlen : (_ : Nat) ≤ _) => ?_; conv => whnf) | (refine okFp_intro (by kernel_rfl) ?_; conv => whnf) | (refine And.intro rfl ?_; conv => whnf) | (refine And.intro (by omega) ?_; conv => whnf) | (refine rowAt_of rfl ?_; conv => whnf) | (refine boolRes_true (by omega) ?_; conv => whnf) | (refine boolRes_false (by omega) ?_; conv => whnf) | (refine boolRes_true rfl ?_; conv => whnf))
    refine rowAt_of (countRows_get hlt) ?_
    conv => whnf
    repeat (first | refine W.seq ?_ | (refine W.reg env hN (by kernel_rfl) ?_; conv => whnf) | refine W.condT rfl ?_ | refine W.condF rfl ?_ | (refine W.skip ?_; conv => whnf) | (refine W.exit ?_; conv => whnf) | refine W.block ?_ | (refine fun (hlen : (_ : Nat) ≤ _) => ?_; conv => whnf) | (refine okFp_intro (by kernel_rfl) ?_; conv => whnf) | (refine And.intro rfl ?_; conv => whnf) | (refine And.intro (by omega) ?_; conv => whnf) | (refine rowAt_of rfl ?_; conv => whnf) | (refine boolRes_true (by omega) ?_; conv => whnf) | (refine boolRes_false (by omega) ?_; conv => whnf) | (refine boolRes_true rfl ?_; conv => whnf))
    refine rowAt_of (countRows_get hlt) ?_
    conv => whnf
    repeat (first | refine W.seq ?_ | (refine W.reg env hN (by kernel_rfl) ?_; conv => whnf) | refine W.condT rfl ?_ | refine W.condF rfl ?_ | (refine W.skip ?_; conv => whnf) | (refine W.exit ?_; conv => whnf) | refine W.block ?_ | (refine fun (hlen : (_ : Nat) ≤ _) => ?_; conv => whnf) | (refine okFp_intro (by kernel_rfl) ?_; conv => whnf) | (refine And.intro rfl ?_; conv => whnf) | (refine And.intro (by omega) ?_; conv => whnf) | (refine rowAt_of rfl ?_; conv => whnf) | (refine boolRes_true (by omega) ?_; conv => whnf) | (refine boolRes_false (by omega) ?_; conv => whnf) | (refine boolRes_true rfl ?_; conv => whnf))
    refine ⟨_, _, _, counts_same rfl l[k] rfl rfl (by kernel_rfl), ?_⟩
    conv => whnf
    repeat (first | refine W.seq ?_ | (refine W.reg env hN (by kernel_rfl) ?_; conv => whnf) | refine W.condT rfl ?_ | refine W.condF rfl ?_ | (refine W.skip ?_; conv => whnf) | (refine W.exit ?_; conv => whnf) | refine W.block ?_ | (refine fun (hlen : (_ : Nat) ≤ _) => ?_; conv => whnf) | (refine okFp_intro (by kernel_rfl) ?_; conv => whnf) | (refine And.intro rfl ?_; conv => whnf) | (refine And.intro (by omega) ?_; conv => whnf) | (refine rowAt_of rfl ?_; conv => whnf) | (refine boolRes_true (by omega) ?_; conv => whnf) | (refine boolRes_false (by omega) ?_; conv => whnf) | (refine boolRes_true rfl ?_; conv => whnf))
    refine ⟨_, _, ?_, ⟨k + 1, by omega, rfl, rfl⟩, ⟨[], [], [], LeG.mk' rfl rfl rfl (by repeat' (first | exact trivial | exact ⟨_, .refl _, rfl⟩ | apply And.intro)) .nil rfl rfl (by rw [hK]; rfl)⟩⟩
    omega
  · repeat (first | refine W.seq ?_ | (refine W.reg env hN (by kernel_rfl) ?_; conv => whnf) | refine W.condT rfl ?_ | refine W.condF rfl ?_ | (refine W.skip ?_; conv => whnf) | (refine W.exit ?_; conv => whnf) | refine W.block ?_ | (refine fun (hlen : (_ : Nat) ≤ _) => ?_; conv => whnf) | (refine okFp_intro (by kernel_rfl) ?_; conv => whnf) | (refine And.intro rfl ?_; conv => whnf) | (refine And.intro (by omega) ?_; conv => whnf) | (refine rowAt_of rfl ?_; conv => whnf) | (refine boolRes_true (by omega) ?_; conv => whnf) | (refine boolRes_false (by omega) ?_; conv => whnf) | (refine boolRes_true rfl ?_; conv => whnf) | (refine W.ret ?_; conv => whnf))
    exact ret0 rfl rfl rfl
end Go.Sx.Sp
namespace Go.Sx.Sp
open Go Go.Sx Go.Proofs
def cnt : List Count → List UInt8 → Int
  | [], _ => 0
  | c :: l, t => (if c.text = t then c.count else 0) + cnt l t
def cntR : List (List Count) → List UInt8 → Int
  | [], _ => 0
  | r :: l, t => cnt r t + cntR l t
def Spill.cnt (s : Spill) (t : List UInt8) : Int := Sp.cnt s.buf t + cntR s.runs t
theorem cnt_append : ∀ (a b : List Count) (t : List UInt8), cnt (a ++ b) t = cnt a t + cnt b t
  | [], b, t => by simp [cnt]
  | c :: a, b, t => by simp only [List.cons_append, cnt, cnt_append a b t]; omega
theorem cntR_append : ∀ (a b : List (List Count)) (t : List UInt8), cntR (a ++ b) t = cntR a t + cntR b t
  | [], b, t => by simp [cntR]
  | c :: a, b, t => by simp only [List.cons_append, cntR, cntR_append a b t]; omega
theorem cnt_insAt (l : List Count) (i : Nat) (t u : List UInt8) : cnt (insAt l i t) u = cnt l u + if t = u then 1 else 0 := by
  conv => rhs; rw [← List.take_append_drop i l]
  rw [insAt, cnt_append, cnt_append]
  simp only [cnt]; omega
theorem cnt_bump : ∀ {l : List Count} {i : Nat} (h : i < l.length) (u : List UInt8), cnt (bump l i) u = cnt l u + if l[i].text = u then 1 else 0
  | c :: l, 0, _, u => by
    simp only [bump, List.modify_cons, if_true, cnt, List.getElem_cons_zero]
    split <;> omega
  | c :: l, i + 1, h, u => by
    have := cnt_bump (l := l) (i := i) (by simpa using h) u
    simp only [bump, List.modify_succ_cons, cnt, List.getElem_cons_succ] at *
    omega
theorem cnt_merged : ∀ (a b : List Count) (t : List UInt8), cnt (merged a b) t = cnt a t + cnt b t
  | [], b, t => by rw [merged_nil_left]; simp [cnt]
  | x :: a, [], t => by rw [merged_nil_right]; simp [cnt]
  | x :: a, y :: b, t => by
    rw [merged_cons]
    split
    · simp only [cnt]; rw [cnt_merged a (y :: b) t]; simp only [cnt]; omega
    · split
      · rename_i h
        simp only [cnt]; rw [cnt_merged a b t, h]; split <;> omega
      · simp only [cnt]; rw [cnt_merged (x :: a) b t]; simp only [cnt]; omega
termination_by a b => a.length + b.length
theorem flush_cnt (s : Spill) (u : List UInt8) : s.flush.cnt u = s.cnt u := by
  by_cases he : s.buf = []
  · rw [flush_nil he]
  · rw [flush_cons he]
    simp only [Spill.cnt, cntR_append, cntR, cnt]; omega
theorem merge_cnt (s : Spill) (u : List UInt8) : s.merge.cnt u = s.cnt u := by
  unfold Spill.merge
  split
  · rename_i a b r he
    simp only [Spill.cnt, cntR_append, he, cntR, cnt_merged]; omega
  · rfl
theorem mergeAll_cnt (u : List UInt8) : ∀ (n : Nat) (s : Spill), (mergeAll n s).cnt u = s.cnt u
  | 0, s => rfl
  | n + 1, s => by
    unfold mergeAll
    split
    · rw [mergeAll_cnt u n, merge_cnt]
    · rfl
theorem push_cnt (s : Spill) (t u : List UInt8) : (s.push t).cnt u = s.cnt u + if t = u then 1 else 0 := by
  cases hf : found s.buf t with
  | true =>
    have hlt := found_lt hf
    rw [push_found hf]
    simp only [found, List.getElem?_eq_getElem hlt, decide_eq_true_eq] at hf
    simp only [Spill.cnt, cnt_bump hlt, hf]; omega
  | false =>
    by_cases hm : (s.buf.length : Int) = s.mem
    · rw [push_full hf hm]
      have h1 := flush_cnt s u
      have h2 := flush_buf s
      simp only [Spill.cnt, h2, cnt] at h1 ⊢
      omega
    · rw [push_room hf hm]
      simp only [Spill.cnt, cnt_insAt]; omega
theorem mergeAll_few : ∀ (n : Nat) (s : Spill), s.runs.length ≤ n + 1 → (mergeAll n s).runs.length ≤ 1
  | 0, s, h => h
  | n + 1, s, h => by
    unfold mergeAll
    split
    · rename_i a b r he
      refine mergeAll_few n _ ?_
      rw [merge_runs he]
      rw [he] at h
      simp only [List.length_cons, List.length_append, List.length_nil] at h ⊢
      omega
    · rename_i hne
      rcases hq : s.runs with _ | ⟨a, _ | ⟨b, r⟩⟩
      · simp
      · simp
      · exact absurd hq (hne a b r)
theorem fin_few (s : Spill) : s.fin.runs.length ≤ 1 := mergeAll_few _ _ (by omega)
theorem fin_runs (s : Spill) : s.fin.runs = [] ∧ s.out = [] ∨ s.fin.runs = [s.out] := by
  have h := fin_few s
  unfold Spill.out
  generalize s.fin.runs = R at *
  rcases R with _ | ⟨a, _ | ⟨b, r⟩⟩
  · exact .inl ⟨rfl, rfl⟩
  · exact .inr rfl
  · simp at h
theorem out_cnt (s : Spill) (u : List UInt8) : cnt s.out u = s.cnt u := by
  have h1 : s.fin.cnt u = s.cnt u := by unfold Spill.fin; rw [mergeAll_cnt, flush_cnt]
  rw [← h1, Spill.cnt, fin_buf]
  rcases fin_runs s with ⟨h2, h3⟩ | h2
  · rw [h2, h3]; simp [cnt, cntR]
  · rw [h2]; simp [cnt, cntR]
theorem mem_merged : ∀ {a b : List Count} {c : Count}, c ∈ merged a b → c.text ∈ a.map (·.text) ∨ c.text ∈ b.map (·.text)
  | [], b, c, h => by rw [merged_nil_left] at h; exact .inr (List.mem_map.2 ⟨c, h, rfl⟩)
  | x :: a, [], c, h => by rw [merged_nil_right] at h; exact .inl (List.mem_map.2 ⟨c, h, rfl⟩)
  | x :: a, y :: b, c, h => by
    rw [merged_cons] at h
    simp only [List.map_cons, List.mem_cons]
    split at h
    · rcases List.mem_cons.1 h with e | e
      · subst e; exact .inl (.inl rfl)
      · rcases mem_merged e with h | h
        · exact .inl (.inr h)
        · exact .inr (by simpa using h)
    · split at h
      · rcases List.mem_cons.1 h with e | e
        · subst e; exact .inl (.inl rfl)
        · rcases mem_merged e with h | h
          · exact .inl (.inr h)
          · exact .inr (.inr h)
      · rcases List.mem_cons.1 h with e | e
        · subst e; exact .inr (.inl rfl)
        · rcases mem_merged e with h | h
          · exact .inl (by simpa using h)
          · exact .inr (.inr h)
termination_by a b => a.length + b.length
theorem sorted_merged : ∀ {a b : List Count}, Sorted a → Sorted b → Sorted (merged a b)
  | [], b, _, hb => by rw [merged_nil_left]; exact hb
  | x :: a, [], ha, _ => by rw [merged_nil_right]; exact ha
  | x :: a, y :: b, ha, hb => by
    obtain ⟨a1, a2⟩ := List.pairwise_cons.1 ha
    obtain ⟨b1, b2⟩ := List.pairwise_cons.1 hb
    have below : ∀ {z : Count} {p q : List Count}, (∀ c ∈ p, Op.bytesLess z.text c.text = true) → (∀ c ∈ q, Op.bytesLess z.text c.text = true) → ∀ c ∈ merged p q, Op.bytesLess z.text c.text = true := by
      intro z p q hp hq c hc
      rcases mem_merged hc with h | h
      · obtain ⟨d, hd, e⟩ := List.mem_map.1 h
        rw [← e]; exact hp d hd
      · obtain ⟨d, hd, e⟩ := List.mem_map.1 h
        rw [← e]; exact hq d hd
    rw [merged_cons]
    split
    · rename_i h
      refine List.pairwise_cons.2 ⟨below a1 fun c hc => ?_, sorted_merged a2 hb⟩
      rcases List.mem_cons.1 hc with e | e
      · subst e; exact h
      · exact less_trans h (b1 c e)
    · rename_i h
      split
      · rename_i he
        refine List.pairwise_cons.2 ⟨below (z := ⟨x.text, x.count + y.count⟩) a1 fun c hc => ?_, sorted_merged a2 b2⟩
        simp only [he]; exact b1 c hc
      · rename_i he
        have hyx := less_total (by simpa using h) he
        refine List.pairwise_cons.2 ⟨below (fun c hc => ?_) b1, sorted_merged ha b2⟩
        rcases List.mem_cons.1 hc with e | e
        · subst e; exact hyx
        · exact less_trans hyx (a1 c e)
termination_by a b => a.length + b.length
theorem pos_merged : ∀ {a b : List Count}, Pos a → Pos b → Pos (merged a b)
  | [], b, _, hb => by rw [merged_nil_left]; exact hb
  | x :: a, [], ha, _ => by rw [merged_nil_right]; exact ha
  | x :: a, y :: b, ha, hb => by
    have ha' : Pos a := fun c hc => ha c (List.mem_cons_of_mem _ hc)
    have hb' : Pos b := fun c hc => hb c (List.mem_cons_of_mem _ hc)
    rw [merged_cons]
    intro c hc
    split at hc
    · rcases List.mem_cons.1 hc with e | e
      · subst e; exact ha _ (by simp)
      · exact pos_merged ha' hb c e
    · split at hc
      · rcases List.mem_cons.1 hc with e | e
        · subst e
          have := ha x (by simp)
          have := hb y (by simp)
          simp only; omega
        · exact pos_merged ha' hb' c e
      · rcases List.mem_cons.1 hc with e | e
        · subst e; exact hb _ (by simp)
        · exact pos_merged ha hb' c e
termination_by a b => a.length + b.length
theorem merged_ne {a b : List Count} (h : a ≠ []) : merged a b ≠ [] := by
  rcases a with _ | ⟨x, a⟩
  · contradiction
  · rcases b with _ | ⟨y, b⟩
    · rw [merged_nil_right]; exact h
    · rw [merged_cons]; split
      · simp
      · split <;> simp
theorem Good.merge {s : Spill} {k : Nat} (h : Good s k) : Good s.merge k := by
  unfold Spill.merge
  split
  · rename_i a b r he
    obtain ⟨h1, h2, h3, h4, h5, h6, h7⟩ := h
    rw [he] at h6 h7
    obtain ⟨a1, a2, a3⟩ := h6 a (by simp)
    obtain ⟨b1, b2, b3⟩ := h6 b (by simp)
    refine ⟨h1, h2, h3, h4, ⟨by simp only; omega, by simp only; omega⟩, fun q hq => ?_, ?_⟩
    · rcases List.mem_append.1 hq with hq | hq
      · exact h6 q (by simp [hq])
      · simp at hq; subst hq; exact ⟨sorted_merged a1 b1, pos_merged a2 b2, merged_ne a3⟩
    · simp only [sumTotal_append]
      simp only [sumTotal, List.map_cons, List.map_nil, List.sum_cons, List.sum_nil, total_merged] at h7 ⊢
      omega
  · exact h
theorem Good.mergeAll {k : Nat} : ∀ (n : Nat) {s : Spill}, Good s k → Good (Sp.mergeAll n s) k
  | 0, s, h => h
  | n + 1, s, h => by
    unfold Sp.mergeAll
    split
    · exact Good.mergeAll n h.merge
    · exact h
theorem Good.fin {s : Spill} {k : Nat} (h : Good s k) : Good s.fin k := h.flush.mergeAll _
theorem out_good {s : Spill} {k : Nat} (h : Good s k) : Sorted s.out ∧ Pos s.out := by
  rcases fin_runs s with ⟨h2, h3⟩ | h2
  · rw [h3]; exact ⟨List.Pairwise.nil, fun c hc => by simp at hc⟩
  · have := h.fin.runs s.out (by rw [h2]; simp)
    exact ⟨this.1, this.2.1⟩
theorem cnt_zero : ∀ {l : List Count} {t : List UInt8}, (∀ c ∈ l, c.text ≠ t) → cnt l t = 0
  | [], t, _ => rfl
  | c :: l, t, h => by
    have h1 := h c (by simp)
    simp only [cnt, if_neg h1, cnt_zero (l := l) fun d hd => h d (List.mem_cons_of_mem _ hd)]
    rfl
theorem cnt_nonneg : ∀ {l : List Count}, Pos l → ∀ t, 0 ≤ cnt l t
  | [], _, t => by simp [cnt]
  | c :: l, h, t => by
    have h1 := h c (by simp)
    have h2 := cnt_nonneg (l := l) (fun x hx => h x (List.mem_cons_of_mem _ hx)) t
    simp only [cnt]; split <;> omega
theorem less_ne {a b : List UInt8} (h : Op.bytesLess a b = true) : b ≠ a := fun e => by rw [e, less_irrefl] at h; cases h
theorem cnt_unique : ∀ {l m : List Count}, Sorted l → Pos l → Sorted m → Pos m → (∀ t, cnt l t = cnt m t) → l = m
  | [], [], _, _, _, _, _ => rfl
  | c :: l, [], _, hp, _, _, h => by
    have h1 := h c.text
    have h2 := hp c (by simp)
    have h3 := cnt_nonneg (l := l) (fun x hx => hp x (List.mem_cons_of_mem _ hx)) c.text
    simp only [cnt, if_true] at h1; omega
  | [], c :: l, _, _, _, hp, h => by
    have h1 := h c.text
    have h2 := hp c (by simp)
    have h3 := cnt_nonneg (l := l) (fun x hx => hp x (List.mem_cons_of_mem _ hx)) c.text
    simp only [cnt, if_true] at h1; omega
  | c :: l, d :: m, hs, hp, hs', hp', h => by
    obtain ⟨s1, s2⟩ := List.pairwise_cons.1 hs
    obtain ⟨t1, t2⟩ := List.pairwise_cons.1 hs'
    have pc := hp c (by simp)
    have pd := hp' d (by simp)
    have pl : Pos l := fun x hx => hp x (List.mem_cons_of_mem _ hx)
    have pm : Pos m := fun x hx => hp' x (List.mem_cons_of_mem _ hx)
    have key : c.text = d.text := by
      cases hcd : Op.bytesLess c.text d.text with
      | true =>
        have h1 := h c.text
        have h2 : cnt (d :: m) c.text = 0 := cnt_zero fun x hx => by
          rcases List.mem_cons.1 hx with e | e
          · subst e; exact less_ne hcd
          · exact less_ne (less_trans hcd (t1 x e))
        have h3 := cnt_nonneg pl c.text
        rw [h2] at h1
        simp only [cnt, if_true] at h1; omega
      | false =>
        by_cases he : c.text = d.text
        · exact he
        · have hdc := less_total hcd he
          have h1 := h d.text
          have h2 : cnt (c :: l) d.text = 0 := cnt_zero fun x hx => by
            rcases List.mem_cons.1 hx with e | e
            · subst e; exact less_ne hdc
            · exact less_ne (less_trans hdc (s1 x e))
          have h3 := cnt_nonneg pm d.text
          rw [h2] at h1
          simp only [cnt, if_true] at h1; omega
    have hl0 : cnt l c.text = 0 := cnt_zero fun x hx => less_ne (s1 x hx)
    have hm0 : cnt m c.text = 0 := cnt_zero fun x hx => by rw [key]; exact less_ne (t1 x hx)
    have hc : c.count = d.count := by
      have h1 := h c.text
      simp only [cnt, if_true, hl0, hm0, if_pos key.symm] at h1
      omega
    have hcd : c = d := by cases c; cases d; simp_all
    subst hcd
    congr 1
    refine cnt_unique s2 pl t2 pm fun t => ?_
    have h1 := h t
    simp only [cnt] at h1; omega
theorem cnt_texts : ∀ {l : List Count}, Pos l → ∀ t, 1 ≤ cnt l t ↔ t ∈ l.map (·.text)
  | [], _, t => by simp [cnt]
  | c :: l, h, t => by
    have h1 := h c (by simp)
    have hl : Pos l := fun x hx => h x (List.mem_cons_of_mem _ hx)
    have h2 := cnt_nonneg hl t
    have h3 := cnt_texts hl t
    simp only [cnt, List.map_cons, List.mem_cons]
    by_cases he : c.text = t
    · simp only [he, if_true, true_or, iff_true]; omega
    · have he' : ¬ t = c.text := fun e => he e.symm
      simp only [he, he', if_false, false_or, Int.zero_add]; exact h3
theorem sorted_unique : ∀ {a b : List (List UInt8)}, SortedT a → SortedT b → (∀ t, t ∈ a ↔ t ∈ b) → a = b := by
  intro a b ha hb h
  have hm : ∀ l : List (List UInt8), (l.map fun u => (⟨u, 1⟩ : Count)).map (·.text) = l := fun l => by simp [Function.comp_def]
  have hs : ∀ {l : List (List UInt8)}, SortedT l → Sorted (l.map fun u => (⟨u, 1⟩ : Count)) := fun hl => by rw [sorted_texts, hm]; exact hl
  have hp : ∀ l : List (List UInt8), Pos (l.map fun u => (⟨u, 1⟩ : Count)) := fun l c hc => by obtain ⟨u, _, rfl⟩ := List.mem_map.1 hc; simp
  have h1 : ∀ {l : List (List UInt8)}, SortedT l → ∀ t, cnt (l.map fun u => (⟨u, 1⟩ : Count)) t = if t ∈ l then 1 else 0 := by
    intro l
    induction l with
    | nil => intro _ t; simp [cnt]
    | cons u l ih =>
      intro hl t
      obtain ⟨l1, l2⟩ := List.pairwise_cons.1 hl
      simp only [List.map_cons, cnt, ih l2]
      by_cases he : u = t
      · subst he
        have : ¬ u ∈ l := fun hu => less_ne (l1 u hu) rfl
        simp [this]
      · have he' : ¬ t = u := fun e => he e.symm
        simp [he, he']
  have h2 := cnt_unique (hs ha) (hp a) (hs hb) (hp b) fun t => by rw [h1 ha, h1 hb]; simp only [h t]
  rw [← hm a, h2, hm]
theorem mem_setOf (l : List (List UInt8)) (t : List UInt8) : t ∈ setOf l ↔ t ∈ l := by
  have : ∀ (l out : List (List UInt8)), t ∈ l.foldl setIns out ↔ t ∈ out ∨ t ∈ l := by
    intro l
    induction l with
    | nil => intro out; simp
    | cons u l ih =>
      intro out
      rw [List.foldl_cons, ih, mem_setIns, List.mem_cons]
      constructor
      · rintro ((h | h) | h)
        · exact .inr (.inl h)
        · exact .inl h
        · exact .inr (.inr h)
      · rintro (h | h | h)
        · exact .inl (.inr h)
        · exact .inl (.inl h)
        · exact .inr h
  have := this l []
  simpa [setOf] using this
end Go.Sx.Sp
namespace Go.Sx.Sp
open Go Go.Sx Go.Proofs
attribute [local irreducible] GoodW
theorem push_written {s : Spill} (t : List UInt8) : s.written ≤ (s.push t).written ∧ (s.push t).written ≤ s.written + s.buf.length := by
  have h1 := @flush_written_le s
  have h2 := @flush_written_ge s
  cases hf : found s.buf t with
  | true => rw [push_found hf]; simp only; omega
  | false =>
    by_cases hm : (s.buf.length : Int) = s.mem
    · rw [push_full hf hm]; simp only; omega
    · rw [push_room hf hm]; simp only; omega
theorem flush_mem (s : Spill) : s.flush.mem = s.mem := by unfold Spill.flush; split <;> rfl
theorem merge_mem (s : Spill) : s.merge.mem = s.mem := by unfold Spill.merge; split <;> rfl
structure Way (s : Spill) (l : List (List UInt8)) (m : Int) : Prop where
  good : Good s l.length
  cnt : ∀ u, s.cnt u = (l.count u : Nat)
  written : 0 ≤ s.written ∧ s.written ≤ l.length * 1000000
  mem : s.mem = m
theorem Way.new {m : Int} (h : 2 ≤ m ∧ m ≤ 65536) : Way (Spill.new m) [] m := ⟨Good.new h, fun u => by simp [Spill.cnt, Spill.new, Sp.cnt, cntR], by simp [Spill.new], rfl⟩
theorem count_snoc (l : List (List UInt8)) (t u : List UInt8) : (((l ++ [t]).count u : Nat) : Int) = (l.count u : Nat) + if t = u then 1 else 0 := by
  rw [List.count_append, List.count_singleton]
  by_cases h : t = u <;> simp [h]
theorem Way.push {s : Spill} {l : List (List UInt8)} {m : Int} (h : Way s l m) (hl : l.length ≤ 10000) (t : List UInt8) : Good (s.push t) (l.length + 1) ∧ (∀ u, (s.push t).cnt u = ((l ++ [t]).count u : Nat)) ∧ (0 ≤ (s.push t).written ∧ (s.push t).written ≤ l.length * 1000000 + 10000) ∧ (s.push t).mem = m := by
  have h1 := push_written (s := s) t
  obtain ⟨h2, _⟩ := h.good.bounds
  have h3 := h.written
  refine ⟨h.good.push t, fun u => ?_, ⟨by omega, by omega⟩, by rw [push_mem, h.mem]⟩
  rw [push_cnt, h.cnt, count_snoc]
theorem Way.pushW {s : Spill} {l : List (List UInt8)} {m : Int} (h : Way s l m) (hl : l.length ≤ 10000) (t : List UInt8) : Way (s.push t) (l ++ [t]) m := by
  obtain ⟨h1, h2, h3, h4⟩ := h.push hl t
  have hl1 : (l ++ [t]).length = l.length + 1 := by simp
  exact ⟨by rw [hl1]; exact h1, h2, by rw [hl1]; omega, h4⟩
structure Mid (s : Spill) (l : List (List UInt8)) (m : Int) : Prop where
  good : Good s l.length
  cnt : ∀ u, s.cnt u = (l.count u : Nat)
  written : 0 ≤ s.written ∧ s.written ≤ l.length * 1000000 - 500000
  mem : s.mem = m
theorem Mid.of_push {s : Spill} {l : List (List UInt8)} {m : Int} (h : Way s l m) (hl : l.length ≤ 10000) (t : List UInt8) : Mid (s.push t) (l ++ [t]) m := by
  obtain ⟨h1, h2, h3, h4⟩ := h.push hl t
  have hl1 : (l ++ [t]).length = l.length + 1 := by simp
  exact ⟨by rw [hl1]; exact h1, h2, by rw [hl1]; omega, h4⟩
theorem Mid.way {s : Spill} {l : List (List UInt8)} {m : Int} (h : Mid s l m) : Way s l m := ⟨h.good, h.cnt, by have := h.written; omega, h.mem⟩
theorem Mid.flush {s : Spill} {l : List (List UInt8)} {m : Int} (h : Mid s l m) (hl : l.length ≤ 10000) : Way s.flush l m := by
  have h1 := @flush_written_le s
  have h2 := @flush_written_ge s
  obtain ⟨h3, _⟩ := h.good.bounds
  have h4 := h.written
  exact ⟨h.good.flush, fun u => by rw [flush_cnt, h.cnt], by omega, by rw [flush_mem, h.mem]⟩
theorem Mid.merge {s : Spill} {l : List (List UInt8)} {m : Int} (h : Mid s l m) (hl : l.length ≤ 10000) {a b : List Count} {r : List (List Count)} (he : s.runs = a :: b :: r) : Way s.merge l m := by
  have hm : s.merge.written = s.written + (merged a b).length := by simp only [Spill.merge, he]
  have hml := merged_len a b
  obtain ⟨h3, _⟩ := h.good.bounds
  rw [he] at h3
  simp only [sumLen, List.map_cons, List.sum_cons] at h3
  have h4 := h.written
  exact ⟨h.good.merge, fun u => by rw [merge_cnt, h.cnt], by omega, by rw [merge_mem, h.mem]⟩
theorem Mid.merge_ok {s : Spill} {l : List (List UInt8)} {m : Int} (h : Mid s l m) (hl : l.length ≤ 10000) {a b : List Count} {r : List (List Count)} (he : s.runs = a :: b :: r) : Spec Try.prog 17 [s.v] [] (.tup [s.merge.v, .int .i64 0]) [] := by
  obtain ⟨h3, h5, h6, h7⟩ := h.good.bounds
  have h4 := h.written
  have hs := h.good.sum
  have ha := (h.good.runs a (by rw [he]; simp)).2.1
  have hb := (h.good.runs b (by rw [he]; simp)).2.1
  have hr := fun q (hq : q ∈ r) => (h.good.runs q (by rw [he]; simp [hq])).2.1.nonneg
  have hta := total_nonneg ha.nonneg
  have htb := total_nonneg hb.nonneg
  have htr := sumTotal_nonneg hr
  have h8 : s.runs.length = r.length + 2 := by rw [he]; rfl
  rw [he] at h3 hs
  simp only [sumLen, List.map_cons, List.sum_cons] at h3
  simp only [sumTotal, List.map_cons, List.sum_cons] at hs htr
  have h9 : s.runs.length ≤ l.length := by
    obtain ⟨g1, g2, _⟩ := h.good.bounds
    omega
  refine Merge_spec s a b r he (by omega) (by omega) (by omega) (fun c hc => ⟨ha.nonneg c hc, ?_⟩) (fun c hc => ⟨hb.nonneg c hc, ?_⟩) (h.good.small (by omega)) ⟨h4.1, by omega⟩ (h.good.merge.small (by omega)) (h.good.valid h4.1)
  · have := count_le_total ha.nonneg c hc; omega
  · have := count_le_total hb.nonneg c hc; omega
theorem Mid.flush_ok {s : Spill} {l : List (List UInt8)} {m : Int} (h : Mid s l m) (hl : l.length ≤ 10000) : Spec Try.prog 16 [s.v] [] (.tup [s.flush.v, .int .i64 0]) [] := by
  have h4 := h.written
  exact Flush_spec s (h.good.small (by omega)) ⟨h4.1, by omega⟩ (h.good.flush.small (by omega)) (h.good.valid h4.1)
theorem way_pushL {s : Spill} {m : Int} (h : Way s [] m) : ∀ (l : List (List UInt8)), l.length ≤ 1000 → Way (pushL s l) l m := by
  have key : ∀ (l pre : List (List UInt8)) (s : Spill), Way s pre m → pre.length + l.length ≤ 1000 → Way (pushL s l) (pre ++ l) m := by
    intro l
    induction l with
    | nil => intro pre s h _; simpa [pushL] using h
    | cons t l ih =>
      intro pre s h hl
      have := ih (pre ++ [t]) (s.push t) (h.pushW (by simp at hl; omega) t) (by simp at hl ⊢; omega)
      simpa [pushL] using this
  intro l hl
  simpa using key l [] s h (by simpa using hl)
theorem counts_facts {x y : Spill} {lx ly : List (List UInt8)} {n m : Int} (hx : Way x lx n) (hy : Way y ly m) (hc : ∀ u, lx.count u = ly.count u) :
    y.out = x.out ∧ x.fin.peak ≤ x.fin.mem ∧ y.fin.peak ≤ y.fin.mem ∧ x.out.length = (setOf lx).length ∧ ∀ c ∈ x.out, (lx.count c.text : Int) = c.count := by
  obtain ⟨sx, px⟩ := out_good hx.good
  obtain ⟨sy, py⟩ := out_good hy.good
  have he : y.out = x.out := cnt_unique sy py sx px fun t => by rw [out_cnt, out_cnt, hx.cnt, hy.cnt, hc]
  refine ⟨he, hx.good.fin.peak.2, hy.good.fin.peak.2, ?_, fun c hcm => ?_⟩
  · have h1 : x.out.map (·.text) = setOf lx := sorted_unique (sorted_texts.1 sx) (setOf_sorted lx) fun t => by
      rw [← cnt_texts px, out_cnt, hx.cnt, mem_setOf, ← List.count_pos_iff]
      omega
    rw [← h1, List.length_map]
  · have h1 := out_cnt x c.text
    rw [hx.cnt] at h1
    rw [← h1]
    have : ∀ {l : List Count}, Sorted l → ∀ c ∈ l, cnt l c.text = c.count := by
      intro l
      induction l with
      | nil => intro _ c hc; cases hc
      | cons d l ih =>
        intro hs c hc
        obtain ⟨s1, s2⟩ := List.pairwise_cons.1 hs
        rcases List.mem_cons.1 hc with e | e
        · subst e
          simp only [cnt, if_true]
          rw [cnt_zero fun q hq => less_ne (s1 q hq)]; omega
        · simp only [cnt]
          rw [ih s2 c e, if_neg (fun h => less_ne (s1 c e) h.symm)]; omega
    exact this sx c hcm
end Go.Sx.Sp
namespace Go.Sx.Sp
open Go Go.Sx Go.Proofs
attribute [local irreducible] GoodW
theorem Way.push_ok {s : Spill} {l : List (List UInt8)} {m : Int} (h : Way s l m) (hl : l.length ≤ 10000) (t : List UInt8) : Spec Try.prog 13 [s.v, .str t] [] (.tup [(s.push t).v, .int .i64 0]) [] := by
  have h3 := h.written
  exact Push_spec s t (h.good.fine (by omega) ⟨h3.1, by omega⟩) ((h.good.push t).small (by omega)) (h.good.valid h3.1)
theorem Way.finish_ok {s : Spill} {l : List (List UInt8)} {m : Int} (h : Way s l m) (hl : l.length ≤ 900) : Spec Try.prog 14 [s.v] [] (.tup [.sl (countRows s.out) false, s.fin.v, .int .i64 0]) [] := by
  have h3 := h.written
  exact Finish_ok h.good ⟨h3.1, by omega⟩ (by omega)
set_option maxHeartbeats 16000000 in
theorem counts_spec (s : List Int) (a b : Int) (hs : Bytes s) (ha : 0 ≤ a ∧ a ≤ 255) (hb : 0 ≤ b ∧ b ≤ 255) : Spec Try.prog 4 [.sl (intRows .u8 s) false, .int .u8 a, .int .u8 b] [] (.bool true) [] := by
  have hs3 : Bytes (s.take 300) := fun x hx => hs x (List.mem_of_mem_take hx)
  have htx := texts_spec (s.take 300) 0 40 hs3 (by omega) (by omega)
  have hr := pickV_range hs3 0 (n := ((40 + 1 : Nat) : Int)) (by omega)
  have htl : (texts (s.take 300) 0 40).1.length ≤ 40 := by
    unfold texts
    rw [textsN_len]
    omega
  have htp : (texts (s.take 300) 0 40).2 ≤ 100 := by
    have h1 := textsN_le (s.take 300) (pickV (s.take 300) 0 (40 + 1 : Nat)).toNat (pickP (s.take 300) 0)
    have h2 := pickP_le (s.take 300) 0
    unfold texts
    omega
  generalize (texts (s.take 300) 0 40).2 = p1 at *
  generalize (texts (s.take 300) 0 40).1 = l at *
  clear hr
  obtain ⟨n, hn⟩ : ∃ n : Int, n = 2 + a % 6 := ⟨_, rfl⟩
  obtain ⟨m, hm⟩ : ∃ m : Int, m = 2 + b % 60 := ⟨_, rfl⟩
  have hA : a.tmod 6 = a % 6 := Int.tmod_eq_emod_of_nonneg ha.1
  have hB : b.tmod 60 = b % 60 := Int.tmod_eq_emod_of_nonneg hb.1
  have hfn : fits n = true := by simp [fits]; omega
  have hfm : fits m = true := by simp [fits]; omega
  have hwx := Way.new (m := n) (by omega)
  have hwy := Way.new (m := m) (by omega)
  have hset := set_spec l (by omega)
  have hsl := strRows_len (setOf l)
  have hll := strRows_len l
  refine Spec.body env Try.func4 rfl (by kernel_rfl) (Nat.le_of_ble_eq_true (by kernel_rfl)) (keysSub rfl) fun Γ hN hK => ?_; have hML : maxLen = 9223372036854775807 := by unfold maxLen; rfl
  repeat (first | refine W.seq ?_ | (refine W.reg env hN (by kernel_rfl) ?_; conv => whnf) | refine W.condT rfl ?_ | refine W.condF rfl ?_ | (refine W.skip ?_; conv => whnf) | (refine W.exit ?_; conv => whnf) | refine W.block ?_ | (refine fun (hlen : (_ : Nat) ≤ _) => ?_; conv => whnf) | (refine okFp_intro (by kernel_rfl) ?_; conv => whnf) | (refine And.intro rfl ?_; conv => whnf) | (refine And.intro (by omega) ?_; conv => whnf) | (refine rowAt_of rfl ?_; conv => whnf) | (refine boolRes_true (by omega) ?_; conv => whnf) | (refine boolRes_false (by omega) ?_; conv => whnf) | (refine boolRes_true rfl ?_; conv => whnf))
  (refine ⟨_, _, _, callG [] [] [] rfl rfl rfl (by kernel_rfl) (sane_spec) (by repeat' (first | exact trivial | exact Lent.refl _ | exact Lent.norm _ | apply And.intro)) rfl ⟨rfl, rfl, rfl, rfl, rfl, by repeat' (first | exact trivial | rfl | apply And.intro), rfl, rfl⟩, ?_⟩; conv => whnf)
  repeat (first | refine W.seq ?_ | (refine W.reg env hN (by kernel_rfl) ?_; conv => whnf) | refine W.condT rfl ?_ | refine W.condF rfl ?_ | (refine W.skip ?_; conv => whnf) | (refine W.exit ?_; conv => whnf) | refine W.block ?_ | (refine fun (hlen : (_ : Nat) ≤ _) => ?_; conv => whnf) | (refine okFp_intro (by kernel_rfl) ?_; conv => whnf) | (refine And.intro rfl ?_; conv => whnf) | (refine And.intro (by omega) ?_; conv => whnf) | (refine rowAt_of rfl ?_; conv => whnf) | (refine boolRes_true (by omega) ?_; conv => whnf) | (refine boolRes_false (by omega) ?_; conv => whnf) | (refine boolRes_true rfl ?_; conv => whnf))
  (refine ⟨_, _, _, callG [] [(10, 29)] [] rfl rfl rfl (by kernel_rfl) (dice_spec s) (by repeat' (first | exact trivial | exact Lent.refl _ | exact Lent.norm _ | apply And.intro)) rfl ⟨rfl, rfl, rfl, rfl, rfl, by repeat' (first | exact trivial | rfl | apply And.intro), rfl, rfl⟩, ?_⟩; conv => whnf)
  repeat (first | refine W.seq ?_ | (refine W.reg env hN (by kernel_rfl) ?_; conv => whnf) | refine W.condT rfl ?_ | refine W.condF rfl ?_ | (refine W.skip ?_; conv => whnf) | (refine W.exit ?_; conv => whnf) | refine W.block ?_ | (refine fun (hlen : (_ : Nat) ≤ _) => ?_; conv => whnf) | (refine okFp_intro (by kernel_rfl) ?_; conv => whnf) | (refine And.intro rfl ?_; conv => whnf) | (refine And.intro (by omega) ?_; conv => whnf) | (refine rowAt_of rfl ?_; conv => whnf) | (refine boolRes_true (by omega) ?_; conv => whnf) | (refine boolRes_false (by omega) ?_; conv => whnf) | (refine boolRes_true rfl ?_; conv => whnf))
  (refine ⟨_, _, _, callG [(0, 29)] [] [] rfl rfl rfl (by kernel_rfl) (htx) (by repeat' (first | exact trivial | exact Lent.refl _ | exact Lent.norm _ | apply And.intro)) rfl ⟨rfl, rfl, rfl, rfl, rfl, by repeat' (first | exact trivial | rfl | apply And.intro), rfl, rfl⟩, ?_⟩; conv => whnf)
  repeat (first | refine W.seq ?_ | (refine W.reg env hN (by kernel_rfl) ?_; conv => whnf) | refine W.condT rfl ?_ | refine W.condF rfl ?_ | (refine W.skip ?_; conv => whnf) | (refine W.exit ?_; conv => whnf) | refine W.block ?_ | (refine fun (hlen : (_ : Nat) ≤ _) => ?_; conv => whnf) | (refine okFp_intro (by kernel_rfl) ?_; conv => whnf) | (refine And.intro rfl ?_; conv => whnf) | (refine And.intro (by omega) ?_; conv => whnf) | (refine rowAt_of rfl ?_; conv => whnf) | (refine boolRes_true (by omega) ?_; conv => whnf) | (refine boolRes_false (by omega) ?_; conv => whnf) | (refine boolRes_true rfl ?_; conv => whnf))
  rw [show 2 + a.tmod 6 = n by omega]
  (refine ⟨_, _, _, callG [] [] [] rfl rfl rfl (by kernel_rfl) (new_spec n hfn) (by repeat' (first | exact trivial | exact Lent.refl _ | exact Lent.norm _ | apply And.intro)) rfl ⟨rfl, rfl, rfl, rfl, rfl, by repeat' (first | exact trivial | rfl | apply And.intro), rfl, rfl⟩, ?_⟩; conv => whnf)
  repeat (first | refine W.seq ?_ | (refine W.reg env hN (by kernel_rfl) ?_; conv => whnf) | refine W.condT rfl ?_ | refine W.condF rfl ?_ | (refine W.skip ?_; conv => whnf) | (refine W.exit ?_; conv => whnf) | refine W.block ?_ | (refine fun (hlen : (_ : Nat) ≤ _) => ?_; conv => whnf) | (refine okFp_intro (by kernel_rfl) ?_; conv => whnf) | (refine And.intro rfl ?_; conv => whnf) | (refine And.intro (by omega) ?_; conv => whnf) | (refine rowAt_of rfl ?_; conv => whnf) | (refine boolRes_true (by omega) ?_; conv => whnf) | (refine boolRes_false (by omega) ?_; conv => whnf) | (refine boolRes_true rfl ?_; conv => whnf))
  rw [show 2 + b.tmod 60 = m by omega]
  (refine ⟨_, _, _, callG [] [] [] rfl rfl rfl (by kernel_rfl) (new_spec m hfm) (by repeat' (first | exact trivial | exact Lent.refl _ | exact Lent.norm _ | apply And.intro)) rfl ⟨rfl, rfl, rfl, rfl, rfl, by repeat' (first | exact trivial | rfl | apply And.intro), rfl, rfl⟩, ?_⟩; conv => whnf)
  repeat (first | refine W.seq ?_ | (refine W.reg env hN (by kernel_rfl) ?_; conv => whnf) | refine W.condT rfl ?_ | refine W.condF rfl ?_ | (refine W.skip ?_; conv => whnf) | (refine W.exit ?_; conv => whnf) | refine W.block ?_ | (refine fun (hlen : (_ : Nat) ≤ _) => ?_; conv => whnf) | (refine okFp_intro (by kernel_rfl) ?_; conv => whnf) | (refine And.intro rfl ?_; conv => whnf) | (refine And.intro (by omega) ?_; conv => whnf) | (refine rowAt_of rfl ?_; conv => whnf) | (refine boolRes_true (by omega) ?_; conv => whnf) | (refine boolRes_false (by omega) ?_; conv => whnf) | (refine boolRes_true rfl ?_; conv => whnf))
  refine W.loopG (fun k st => ∃ (j p : Nat) (x y : Spill), j ≤ l.length ∧ p ≤ 100 + j ∧ Way x (l.take j) n ∧ Way y (l.reverse.take j) m ∧ k = l.length - j ∧ st = ⟨[(7, .bp 29 0), (8, .sl (strRows l) false), (9, .bp 9 0), (10, .int .i64 0), (11, .bp 11 0), (12, .int .i64 0), (54, .sl (strRows l) false), (55, .int .i64 (strRows l).length), (56, .int .i64 j)], [(29, [diceB (s.take 300) p]), (9, [x.blk]), (11, [y.blk])], [9, 11, 29]⟩)
    l.length _ ⟨0, p1, Spill.new n, Spill.new m, by omega, by omega, hwx, hwy, rfl, rfl⟩ ⟨[(9, 9), (11, 11), (29, 29)], [], [], LeG.mk' rfl rfl rfl (by repeat' (first | exact trivial | exact ⟨_, .refl _, rfl⟩ | apply And.intro)) (.cons 29 rfl rfl (.refl _) rfl (.cons 9 rfl rfl (.refl _) rfl (.cons 11 rfl rfl (.refl _) rfl .nil))) rfl rfl (by rw [hK]; rfl)⟩ ?_
  rintro k st ⟨j, p, x, y, hj, hp, hx, hy, rfl, rfl⟩
  have hlx : (l.take j).length = j := by simp; omega
  have hly : (l.reverse.take j).length = j := by simp; omega
  repeat (first | refine W.seq ?_ | (refine W.reg env hN (by kernel_rfl) ?_; conv => whnf) | refine W.condT rfl ?_ | refine W.condF rfl ?_ | (refine W.skip ?_; conv => whnf) | (refine W.exit ?_; conv => whnf) | refine W.block ?_ | (refine fun (hlen : (_ : Nat) ≤ _) => ?_; conv => whnf) | (refine okFp_intro (by kernel_rfl) ?_; conv => whnf) | (refine And.intro rfl ?_; conv => whnf) | (refine And.intro (by omega) ?_; conv => whnf) | (refine rowAt_of rfl ?_; conv => whnf) | (refine boolRes_true (by omega) ?_; conv => whnf) | (refine boolRes_false (by omega) ?_; conv => whnf) | (refine boolRes_true rfl ?_; conv => whnf))
  refine boolRes_split (fun hb => ?_) (fun hb => ?_) <;> conv => whnf
  · have hlt : j < l.length := by omega
    have hxj : (strRows l)[j]? = some [.str l[j]] := by simp [strRows, hlt]
    have hyj : (strRows l)[(((strRows l).length : Int) - (1 : Nat) - (j : Nat)).toNat]? = some [.str (l[l.length - 1 - j]'(by omega))] := by
      rw [show (((strRows l).length : Int) - (1 : Nat) - (j : Nat)).toNat = l.length - 1 - j by omega]
      have h0 : l.length - 1 - j < l.length := by omega
      simp [strRows, h0]
    have htx1 : l.take (j + 1) = l.take j ++ [l[j]] := by rw [List.take_add_one, List.getElem?_eq_getElem hlt]; rfl
    have hty1 : l.reverse.take (j + 1) = l.reverse.take j ++ [l[l.length - 1 - j]'(by omega)] := by
      have h0 : j < l.reverse.length := by simpa using hlt
      rw [List.take_add_one, List.getElem?_eq_getElem h0, List.getElem_reverse]; rfl
    have spx := hx.push_ok (by omega) l[j]
    have spy := hy.push_ok (by omega) (l[l.length - 1 - j]'(by omega))
    have hmx := Mid.of_push hx (by omega) l[j]
    have hwy1 := hy.pushW (by omega) (l[l.length - 1 - j]'(by omega))
    rw [← htx1] at hmx
    rw [← hty1] at hwy1
    generalize x.push l[j] = x1 at *
    generalize y.push (l[l.length - 1 - j]'(by omega)) = y1 at *
    have hlx1 : (l.take (j + 1)).length = j + 1 := by simp; omega
    have hroom := hmx.good.room
    have hcx := countRows_len x1.buf
    have hpk := pick_spec (s.take 300) p 8 hs3 (by omega) (by omega)
    have hpr := pickV_range hs3 p (n := 8) (by omega)
    have hpp := pickP_le (s.take 300) p
    generalize pickV (s.take 300) p 8 = pv at *
    generalize pickP (s.take 300) p = p2 at *
    repeat (first | refine W.seq ?_ | (refine W.reg env hN (by kernel_rfl) ?_; conv => whnf) | refine W.condT rfl ?_ | refine W.condF rfl ?_ | (refine W.skip ?_; conv => whnf) | (refine W.exit ?_; conv => whnf) | refine W.block ?_ | (refine fun (hlen : (_ : Nat) ≤ _) => ?_; conv => whnf) | (refine okFp_intro (by kernel_rfl) ?_; conv => whnf) | (refine And.intro rfl ?_; conv => whnf) | (refine And.intro (by omega) ?_; conv => whnf) | (refine rowAt_of rfl ?_; conv => whnf) | (refine boolRes_true (by omega) ?_; conv => whnf) | (refine boolRes_false (by omega) ?_; conv => whnf) | (refine boolRes_true rfl ?_; conv => whnf))
    refine rowAt_of hxj ?_
    conv => whnf
    repeat (first | refine W.seq ?_ | (refine W.reg env hN (by kernel_rfl) ?_; conv => whnf) | refine W.condT rfl ?_ | refine W.condF rfl ?_ | (refine W.skip ?_; conv => whnf) | (refine W.exit ?_; conv => whnf) | refine W.block ?_ | (refine fun (hlen : (_ : Nat) ≤ _) => ?_; conv => whnf) | (refine okFp_intro (by kernel_rfl) ?_; conv => whnf) | (refine And.intro rfl ?_; conv => whnf) | (refine And.intro (by omega) ?_; conv => whnf) | (refine rowAt_of rfl ?_; conv => whnf) | (refine boolRes_true (by omega) ?_; conv => whnf) | (refine boolRes_false (by omega) ?_; conv => whnf) | (refine boolRes_true rfl ?_; conv => whnf))
    (refine ⟨_, _, _, callG [] [] [] rfl rfl rfl (by kernel_rfl) (spx) (by repeat' (first | exact trivial | exact Lent.refl _ | exact Lent.norm _ | apply And.intro)) rfl ⟨rfl, rfl, rfl, rfl, rfl, by repeat' (first | exact trivial | rfl | apply And.intro), rfl, rfl⟩, ?_⟩; conv => whnf)
    repeat (first | refine W.seq ?_ | (refine W.reg env hN (by kernel_rfl) ?_; conv => whnf) | refine W.condT rfl ?_ | refine W.condF rfl ?_ | (refine W.skip ?_; conv => whnf) | (refine W.exit ?_; conv => whnf) | refine W.block ?_ | (refine fun (hlen : (_ : Nat) ≤ _) => ?_; conv => whnf) | (refine okFp_intro (by kernel_rfl) ?_; conv => whnf) | (refine And.intro rfl ?_; conv => whnf) | (refine And.intro (by omega) ?_; conv => whnf) | (refine rowAt_of rfl ?_; conv => whnf) | (refine boolRes_true (by omega) ?_; conv => whnf) | (refine boolRes_false (by omega) ?_; conv => whnf) | (refine boolRes_true rfl ?_; conv => whnf))
    refine rowAt_of hyj ?_
    conv => whnf
    repeat (first | refine W.seq ?_ | (refine W.reg env hN (by kernel_rfl) ?_; conv => whnf) | refine W.condT rfl ?_ | refine W.condF rfl ?_ | (refine W.skip ?_; conv => whnf) | (refine W.exit ?_; conv => whnf) | refine W.block ?_ | (refine fun (hlen : (_ : Nat) ≤ _) => ?_; conv => whnf) | (refine okFp_intro (by kernel_rfl) ?_; conv => whnf) | (refine And.intro rfl ?_; conv => whnf) | (refine And.intro (by omega) ?_; conv => whnf) | (refine rowAt_of rfl ?_; conv => whnf) | (refine boolRes_true (by omega) ?_; conv => whnf) | (refine boolRes_false (by omega) ?_; conv => whnf) | (refine boolRes_true rfl ?_; conv => whnf))
    (refine ⟨_, _, _, callG [] [] [] rfl rfl rfl (by kernel_rfl) (spy) (by repeat' (first | exact trivial | exact Lent.refl _ | exact Lent.norm _ | apply And.intro)) rfl ⟨rfl, rfl, rfl, rfl, rfl, by repeat' (first | exact trivial | rfl | apply And.intro), rfl, rfl⟩, ?_⟩; conv => whnf)
    repeat (first | refine W.seq ?_ | (refine W.reg env hN (by kernel_rfl) ?_; conv => whnf) | refine W.condT rfl ?_ | refine W.condF rfl ?_ | (refine W.skip ?_; conv => whnf) | (refine W.exit ?_; conv => whnf) | refine W.block ?_ | (refine fun (hlen : (_ : Nat) ≤ _) => ?_; conv => whnf) | (refine okFp_intro (by kernel_rfl) ?_; conv => whnf) | (refine And.intro rfl ?_; conv => whnf) | (refine And.intro (by omega) ?_; conv => whnf) | (refine rowAt_of rfl ?_; conv => whnf) | (refine boolRes_true (by omega) ?_; conv => whnf) | (refine boolRes_false (by omega) ?_; conv => whnf) | (refine boolRes_true rfl ?_; conv => whnf))
    (refine ⟨_, _, _, callG [(0, 29)] [] [] rfl rfl rfl (by kernel_rfl) (hpk) (by repeat' (first | exact trivial | exact Lent.refl _ | exact Lent.norm _ | apply And.intro)) rfl ⟨rfl, rfl, rfl, rfl, rfl, by repeat' (first | exact trivial | rfl | apply And.intro), rfl, rfl⟩, ?_⟩; conv => whnf)
    repeat (first | refine W.seq ?_ | (refine W.reg env hN (by kernel_rfl) ?_; conv => whnf) | refine W.condT rfl ?_ | refine W.condF rfl ?_ | (refine W.skip ?_; conv => whnf) | (refine W.exit ?_; conv => whnf) | refine W.block ?_ | (refine fun (hlen : (_ : Nat) ≤ _) => ?_; conv => whnf) | (refine okFp_intro (by kernel_rfl) ?_; conv => whnf) | (refine And.intro rfl ?_; conv => whnf) | (refine And.intro (by omega) ?_; conv => whnf) | (refine rowAt_of rfl ?_; conv => whnf) | (refine boolRes_true (by omega) ?_; conv => whnf) | (refine boolRes_false (by omega) ?_; conv => whnf) | (refine boolRes_true rfl ?_; conv => whnf))
    refine boolRes_split (fun hb => ?_) (fun hb => ?_) <;> conv => whnf
    · repeat (first | refine W.seq ?_ | (refine W.reg env hN (by kernel_rfl) ?_; conv => whnf) | refine W.condT rfl ?_ | refine W.condF rfl ?_ | (refine W.skip ?_; conv => whnf) | (refine W.exit ?_; conv => whnf) | refine W.block ?_ | (refine fun (hlen : (_ : Nat) ≤ _) => ?_; conv => whnf) | (refine okFp_intro (by kernel_rfl) ?_; conv => whnf) | (refine And.intro rfl ?_; conv => whnf) | (refine And.intro (by omega) ?_; conv => whnf) | (refine rowAt_of rfl ?_; conv => whnf) | (refine boolRes_true (by omega) ?_; conv => whnf) | (refine boolRes_false (by omega) ?_; conv => whnf) | (refine boolRes_true rfl ?_; conv => whnf))
      (refine ⟨_, _, _, callG [] [] [] rfl rfl rfl (by kernel_rfl) (hmx.flush_ok (by omega)) (by repeat' (first | exact trivial | exact Lent.refl _ | exact Lent.norm _ | apply And.intro)) rfl ⟨rfl, rfl, rfl, rfl, rfl, by repeat' (first | exact trivial | rfl | apply And.intro), rfl, rfl⟩, ?_⟩; conv => whnf)
      repeat (first | refine W.seq ?_ | (refine W.reg env hN (by kernel_rfl) ?_; conv => whnf) | refine W.condT rfl ?_ | refine W.condF rfl ?_ | (refine W.skip ?_; conv => whnf) | (refine W.exit ?_; conv => whnf) | refine W.block ?_ | (refine fun (hlen : (_ : Nat) ≤ _) => ?_; conv => whnf) | (refine okFp_intro (by kernel_rfl) ?_; conv => whnf) | (refine And.intro rfl ?_; conv => whnf) | (refine And.intro (by omega) ?_; conv => whnf) | (refine rowAt_of rfl ?_; conv => whnf) | (refine boolRes_true (by omega) ?_; conv => whnf) | (refine boolRes_false (by omega) ?_; conv => whnf) | (refine boolRes_true rfl ?_; conv => whnf))
      refine ⟨_, _, ?_, ⟨j + 1, p2, x1.flush, y1, by omega, by omega, hmx.flush (by omega), hwy1, rfl, rfl⟩, ⟨[(29, 29), (9, 9), (11, 11)], [], [], LeG.mk' rfl rfl rfl (by repeat' (first | exact trivial | exact ⟨_, .refl _, rfl⟩ | apply And.intro)) (.cons 29 rfl rfl (.refl _) rfl (.cons 9 rfl rfl (.refl _) rfl (.cons 11 rfl rfl (.refl _) rfl .nil))) rfl rfl (by rw [hK]; rfl)⟩⟩
      omega
    · repeat (first | refine W.seq ?_ | (refine W.reg env hN (by kernel_rfl) ?_; conv => whnf) | refine W.condT rfl ?_ | refine W.condF rfl ?_ | (refine W.skip ?_; conv => whnf) | (refine W.exit ?_; conv => whnf) | refine W.block ?_ | (refine fun (hlen : (_ : Nat) ≤ _) => ?_; conv => whnf) | (refine okFp_intro (by kernel_rfl) ?_; conv => whnf) | (refine And.intro rfl ?_; conv => whnf) | (refine And.intro (by omega) ?_; conv => whnf) | (refine rowAt_of rfl ?_; conv => whnf) | (refine boolRes_true (by omega) ?_; conv => whnf) | (refine boolRes_false (by omega) ?_; conv => whnf) | (refine boolRes_true rfl ?_; conv => whnf))
      refine boolRes_split (fun hb => ?_) (fun hb => ?_) <;> conv => whnf
      · rcases Nat.lt_or_ge x1.runs.length 2 with hfew | hmany
        · have hmf := MergeFew_spec x1 hfew (hmx.good.valid hmx.written.1)
          repeat (first | refine W.seq ?_ | (refine W.reg env hN (by kernel_rfl) ?_; conv => whnf) | refine W.condT rfl ?_ | refine W.condF rfl ?_ | (refine W.skip ?_; conv => whnf) | (refine W.exit ?_; conv => whnf) | refine W.block ?_ | (refine fun (hlen : (_ : Nat) ≤ _) => ?_; conv => whnf) | (refine okFp_intro (by kernel_rfl) ?_; conv => whnf) | (refine And.intro rfl ?_; conv => whnf) | (refine And.intro (by omega) ?_; conv => whnf) | (refine rowAt_of rfl ?_; conv => whnf) | (refine boolRes_true (by omega) ?_; conv => whnf) | (refine boolRes_false (by omega) ?_; conv => whnf) | (refine boolRes_true rfl ?_; conv => whnf))
          (refine ⟨_, _, _, callG [] [] [] rfl rfl rfl (by kernel_rfl) (hmf) (by repeat' (first | exact trivial | exact Lent.refl _ | exact Lent.norm _ | apply And.intro)) rfl ⟨rfl, rfl, rfl, rfl, rfl, by repeat' (first | exact trivial | rfl | apply And.intro), rfl, rfl⟩, ?_⟩; conv => whnf)
          repeat (first | refine W.seq ?_ | (refine W.reg env hN (by kernel_rfl) ?_; conv => whnf) | refine W.condT rfl ?_ | refine W.condF rfl ?_ | (refine W.skip ?_; conv => whnf) | (refine W.exit ?_; conv => whnf) | refine W.block ?_ | (refine fun (hlen : (_ : Nat) ≤ _) => ?_; conv => whnf) | (refine okFp_intro (by kernel_rfl) ?_; conv => whnf) | (refine And.intro rfl ?_; conv => whnf) | (refine And.intro (by omega) ?_; conv => whnf) | (refine rowAt_of rfl ?_; conv => whnf) | (refine boolRes_true (by omega) ?_; conv => whnf) | (refine boolRes_false (by omega) ?_; conv => whnf) | (refine boolRes_true rfl ?_; conv => whnf))
          refine ⟨_, _, ?_, ⟨j + 1, p2, x1, y1, by omega, by omega, hmx.way, hwy1, rfl, rfl⟩, ⟨[(29, 29), (9, 9), (11, 11)], [], [], LeG.mk' rfl rfl rfl (by repeat' (first | exact trivial | exact ⟨_, .refl _, rfl⟩ | apply And.intro)) (.cons 29 rfl rfl (.refl _) rfl (.cons 9 rfl rfl (.refl _) rfl (.cons 11 rfl rfl (.refl _) rfl .nil))) rfl rfl (by rw [hK]; rfl)⟩⟩
          omega
        · obtain ⟨ra, rb, rr, hruns⟩ : ∃ ra rb rr, x1.runs = ra :: rb :: rr := by
            rcases hq : x1.runs with _ | ⟨ra, _ | ⟨rb, rr⟩⟩
            · rw [hq] at hmany; simp at hmany
            · rw [hq] at hmany; simp at hmany
            · exact ⟨_, _, _, rfl⟩
          have hmm := hmx.merge_ok (by omega) hruns
          repeat (first | refine W.seq ?_ | (refine W.reg env hN (by kernel_rfl) ?_; conv => whnf) | refine W.condT rfl ?_ | refine W.condF rfl ?_ | (refine W.skip ?_; conv => whnf) | (refine W.exit ?_; conv => whnf) | refine W.block ?_ | (refine fun (hlen : (_ : Nat) ≤ _) => ?_; conv => whnf) | (refine okFp_intro (by kernel_rfl) ?_; conv => whnf) | (refine And.intro rfl ?_; conv => whnf) | (refine And.intro (by omega) ?_; conv => whnf) | (refine rowAt_of rfl ?_; conv => whnf) | (refine boolRes_true (by omega) ?_; conv => whnf) | (refine boolRes_false (by omega) ?_; conv => whnf) | (refine boolRes_true rfl ?_; conv => whnf))
          (refine ⟨_, _, _, callG [] [] [] rfl rfl rfl (by kernel_rfl) (hmm) (by repeat' (first | exact trivial | exact Lent.refl _ | exact Lent.norm _ | apply And.intro)) rfl ⟨rfl, rfl, rfl, rfl, rfl, by repeat' (first | exact trivial | rfl | apply And.intro), rfl, rfl⟩, ?_⟩; conv => whnf)
          repeat (first | refine W.seq ?_ | (refine W.reg env hN (by kernel_rfl) ?_; conv => whnf) | refine W.condT rfl ?_ | refine W.condF rfl ?_ | (refine W.skip ?_; conv => whnf) | (refine W.exit ?_; conv => whnf) | refine W.block ?_ | (refine fun (hlen : (_ : Nat) ≤ _) => ?_; conv => whnf) | (refine okFp_intro (by kernel_rfl) ?_; conv => whnf) | (refine And.intro rfl ?_; conv => whnf) | (refine And.intro (by omega) ?_; conv => whnf) | (refine rowAt_of rfl ?_; conv => whnf) | (refine boolRes_true (by omega) ?_; conv => whnf) | (refine boolRes_false (by omega) ?_; conv => whnf) | (refine boolRes_true rfl ?_; conv => whnf))
          refine ⟨_, _, ?_, ⟨j + 1, p2, x1.merge, y1, by omega, by omega, hmx.merge (by omega) hruns, hwy1, rfl, rfl⟩, ⟨[(29, 29), (9, 9), (11, 11)], [], [], LeG.mk' rfl rfl rfl (by repeat' (first | exact trivial | exact ⟨_, .refl _, rfl⟩ | apply And.intro)) (.cons 29 rfl rfl (.refl _) rfl (.cons 9 rfl rfl (.refl _) rfl (.cons 11 rfl rfl (.refl _) rfl .nil))) rfl rfl (by rw [hK]; rfl)⟩⟩
          omega
      · repeat (first | refine W.seq ?_ | (refine W.reg env hN (by kernel_rfl) ?_; conv => whnf) | refine W.condT rfl ?_ | refine W.condF rfl ?_ | (refine W.skip ?_; conv => whnf) | (refine W.exit ?_; conv => whnf) | refine W.block ?_ | (refine fun (hlen : (_ : Nat) ≤ _) => ?_; conv => whnf) | (refine okFp_intro (by kernel_rfl) ?_; conv => whnf) | (refine And.intro rfl ?_; conv => whnf) | (refine And.intro (by omega) ?_; conv => whnf) | (refine rowAt_of rfl ?_; conv => whnf) | (refine boolRes_true (by omega) ?_; conv => whnf) | (refine boolRes_false (by omega) ?_; conv => whnf) | (refine boolRes_true rfl ?_; conv => whnf))
        refine ⟨_, _, ?_, ⟨j + 1, p2, x1, y1, by omega, by omega, hmx.way, hwy1, rfl, rfl⟩, ⟨[(29, 29), (9, 9), (11, 11)], [], [], LeG.mk' rfl rfl rfl (by repeat' (first | exact trivial | exact ⟨_, .refl _, rfl⟩ | apply And.intro)) (.cons 29 rfl rfl (.refl _) rfl (.cons 9 rfl rfl (.refl _) rfl (.cons 11 rfl rfl (.refl _) rfl .nil))) rfl rfl (by rw [hK]; rfl)⟩⟩
        omega
  · have hje : j = l.length := by omega
    subst hje
    rw [List.take_length] at hx
    rw [List.take_of_length_le (by simp)] at hy
    obtain ⟨f1, f2, f3, f4, f5⟩ := counts_facts hx hy (fun u => by rw [List.count_reverse])
    have spx := hx.finish_ok (by omega)
    have spy := hy.finish_ok (by simp; omega)
    rw [f1] at spy
    have hsame := same_spec x.out
    have hol := countRows_len x.out
    generalize x.out = u at *
    repeat (first | refine W.seq ?_ | (refine W.reg env hN (by kernel_rfl) ?_; conv => whnf) | refine W.condT rfl ?_ | refine W.condF rfl ?_ | (refine W.skip ?_; conv => whnf) | (refine W.exit ?_; conv => whnf) | refine W.block ?_ | (refine fun (hlen : (_ : Nat) ≤ _) => ?_; conv => whnf) | (refine okFp_intro (by kernel_rfl) ?_; conv => whnf) | (refine And.intro rfl ?_; conv => whnf) | (refine And.intro (by omega) ?_; conv => whnf) | (refine rowAt_of rfl ?_; conv => whnf) | (refine boolRes_true (by omega) ?_; conv => whnf) | (refine boolRes_false (by omega) ?_; conv => whnf) | (refine boolRes_true rfl ?_; conv => whnf))
    (refine ⟨_, _, _, callG [] [] [] rfl rfl rfl (by kernel_rfl) (spx) (by repeat' (first | exact trivial | exact Lent.refl _ | exact Lent.norm _ | apply And.intro)) rfl ⟨rfl, rfl, rfl, rfl, rfl, by repeat' (first | exact trivial | rfl | apply And.intro), rfl, rfl⟩, ?_⟩; conv => whnf)
    repeat (first | refine W.seq ?_ | (refine W.reg env hN (by kernel_rfl) ?_; conv => whnf) | refine W.condT rfl ?_ | refine W.condF rfl ?_ | (refine W.skip ?_; conv => whnf) | (refine W.exit ?_; conv => whnf) | refine W.block ?_ | (refine fun (hlen : (_ : Nat) ≤ _) => ?_; conv => whnf) | (refine okFp_intro (by kernel_rfl) ?_; conv => whnf) | (refine And.intro rfl ?_; conv => whnf) | (refine And.intro (by omega) ?_; conv => whnf) | (refine rowAt_of rfl ?_; conv => whnf) | (refine boolRes_true (by omega) ?_; conv => whnf) | (refine boolRes_false (by omega) ?_; conv => whnf) | (refine boolRes_true rfl ?_; conv => whnf))
    (refine ⟨_, _, _, callG [] [] [] rfl rfl rfl (by kernel_rfl) (spy) (by repeat' (first | exact trivial | exact Lent.refl _ | exact Lent.norm _ | apply And.intro)) rfl ⟨rfl, rfl, rfl, rfl, rfl, by repeat' (first | exact trivial | rfl | apply And.intro), rfl, rfl⟩, ?_⟩; conv => whnf)
    repeat (first | refine W.seq ?_ | (refine W.reg env hN (by kernel_rfl) ?_; conv => whnf) | refine W.condT rfl ?_ | refine W.condF rfl ?_ | (refine W.skip ?_; conv => whnf) | (refine W.exit ?_; conv => whnf) | refine W.block ?_ | (refine fun (hlen : (_ : Nat) ≤ _) => ?_; conv => whnf) | (refine okFp_intro (by kernel_rfl) ?_; conv => whnf) | (refine And.intro rfl ?_; conv => whnf) | (refine And.intro (by omega) ?_; conv => whnf) | (refine rowAt_of rfl ?_; conv => whnf) | (refine boolRes_true (by omega) ?_; conv => whnf) | (refine boolRes_false (by omega) ?_; conv => whnf) | (refine boolRes_true rfl ?_; conv => whnf))
    (refine ⟨_, _, _, callG [] [] [] rfl rfl rfl (by kernel_rfl) (hsame) (by repeat' (first | exact trivial | exact Lent.refl _ | exact Lent.norm _ | apply And.intro)) rfl ⟨rfl, rfl, rfl, rfl, rfl, by repeat' (first | exact trivial | rfl | apply And.intro), rfl, rfl⟩, ?_⟩; conv => whnf)
    repeat (first | refine W.seq ?_ | (refine W.reg env hN (by kernel_rfl) ?_; conv => whnf) | refine W.condT rfl ?_ | refine W.condF rfl ?_ | (refine W.skip ?_; conv => whnf) | (refine W.exit ?_; conv => whnf) | refine W.block ?_ | (refine fun (hlen : (_ : Nat) ≤ _) => ?_; conv => whnf) | (refine okFp_intro (by kernel_rfl) ?_; conv => whnf) | (refine And.intro rfl ?_; conv => whnf) | (refine And.intro (by omega) ?_; conv => whnf) | (refine rowAt_of rfl ?_; conv => whnf) | (refine boolRes_true (by omega) ?_; conv => whnf) | (refine boolRes_false (by omega) ?_; conv => whnf) | (refine boolRes_true rfl ?_; conv => whnf))
    (refine ⟨_, _, _, callG [] [] [] rfl rfl rfl (by kernel_rfl) (hset) (by repeat' (first | exact trivial | exact Lent.refl _ | exact Lent.norm _ | apply And.intro)) rfl ⟨rfl, rfl, rfl, rfl, rfl, by repeat' (first | exact trivial | rfl | apply And.intro), rfl, rfl⟩, ?_⟩; conv => whnf)
    repeat (first | refine W.seq ?_ | (refine W.reg env hN (by kernel_rfl) ?_; conv => whnf) | refine W.condT rfl ?_ | refine W.condF rfl ?_ | (refine W.skip ?_; conv => whnf) | (refine W.exit ?_; conv => whnf) | refine W.block ?_ | (refine fun (hlen : (_ : Nat) ≤ _) => ?_; conv => whnf) | (refine okFp_intro (by kernel_rfl) ?_; conv => whnf) | (refine And.intro rfl ?_; conv => whnf) | (refine And.intro (by omega) ?_; conv => whnf) | (refine rowAt_of rfl ?_; conv => whnf) | (refine boolRes_true (by omega) ?_; conv => whnf) | (refine boolRes_false (by omega) ?_; conv => whnf) | (refine boolRes_true rfl ?_; conv => whnf))
    refine W.loopG (fun k st => ∃ i : Nat, i ≤ u.length ∧ k = u.length - i ∧ st = ⟨[(8, .sl (strRows l) false), (160, .sl (countRows u) false), (161, .int .i64 (countRows u).length), (162, .int .i64 i)], [], []⟩)
      u.length _ ⟨0, by omega, rfl, rfl⟩ ⟨[], [], [], LeG.mk' rfl rfl rfl (by repeat' (first | exact trivial | exact ⟨_, .refl _, rfl⟩ | apply And.intro)) .nil rfl rfl (by rw [hK]; rfl)⟩ ?_
    rintro k st ⟨i, hi, rfl, rfl⟩
    repeat (first | refine W.seq ?_ | (refine W.reg env hN (by kernel_rfl) ?_; conv => whnf) | refine W.condT rfl ?_ | refine W.condF rfl ?_ | (refine W.skip ?_; conv => whnf) | (refine W.exit ?_; conv => whnf) | refine W.block ?_ | (refine fun (hlen : (_ : Nat) ≤ _) => ?_; conv => whnf) | (refine okFp_intro (by kernel_rfl) ?_; conv => whnf) | (refine And.intro rfl ?_; conv => whnf) | (refine And.intro (by omega) ?_; conv => whnf) | (refine rowAt_of rfl ?_; conv => whnf) | (refine boolRes_true (by omega) ?_; conv => whnf) | (refine boolRes_false (by omega) ?_; conv => whnf) | (refine boolRes_true rfl ?_; conv => whnf))
    refine boolRes_split (fun hb => ?_) (fun hb => ?_) <;> conv => whnf
    · have hlt : i < u.length := by omega
      have hcount := f5 u[i] (List.getElem_mem hlt)
      have hget := countRows_get hlt
      generalize u[i] = c at *
      repeat (first | refine W.seq ?_ | (refine W.reg env hN (by kernel_rfl) ?_; conv => whnf) | refine W.condT rfl ?_ | refine W.condF rfl ?_ | (refine W.skip ?_; conv => whnf) | (refine W.exit ?_; conv => whnf) | refine W.block ?_ | (refine fun (hlen : (_ : Nat) ≤ _) => ?_; conv => whnf) | (refine okFp_intro (by kernel_rfl) ?_; conv => whnf) | (refine And.intro rfl ?_; conv => whnf) | (refine And.intro (by omega) ?_; conv => whnf) | (refine rowAt_of rfl ?_; conv => whnf) | (refine boolRes_true (by omega) ?_; conv => whnf) | (refine boolRes_false (by omega) ?_; conv => whnf) | (refine boolRes_true rfl ?_; conv => whnf))
      refine rowAt_of hget ?_
      conv => whnf
      repeat (first | refine W.seq ?_ | (refine W.reg env hN (by kernel_rfl) ?_; conv => whnf) | refine W.condT rfl ?_ | refine W.condF rfl ?_ | (refine W.skip ?_; conv => whnf) | (refine W.exit ?_; conv => whnf) | refine W.block ?_ | (refine fun (hlen : (_ : Nat) ≤ _) => ?_; conv => whnf) | (refine okFp_intro (by kernel_rfl) ?_; conv => whnf) | (refine And.intro rfl ?_; conv => whnf) | (refine And.intro (by omega) ?_; conv => whnf) | (refine rowAt_of rfl ?_; conv => whnf) | (refine boolRes_true (by omega) ?_; conv => whnf) | (refine boolRes_false (by omega) ?_; conv => whnf) | (refine boolRes_true rfl ?_; conv => whnf))
      refine W.loopG (fun k st => ∃ q : Nat, q ≤ l.length ∧ k = l.length - q ∧ st = ⟨[(8, .sl (strRows l) false), (160, .sl (countRows u) false), (161, .int .i64 (countRows u).length), (162, .int .i64 i), (22, .bp 22 0), (23, .int .i64 ((l.take q).count c.text)), (166, .sl (strRows l) false), (167, .int .i64 (strRows l).length), (168, .int .i64 q)], [(22, [.rows 2 [c.row] none])], [22]⟩)
        l.length _ ⟨0, by omega, rfl, rfl⟩ ⟨[(22, 22)], [], [], LeG.mk' rfl rfl rfl (by repeat' (first | exact trivial | exact ⟨_, .refl _, rfl⟩ | apply And.intro)) (.cons 22 rfl rfl (.refl _) rfl .nil) rfl rfl (by rw [hK]; rfl)⟩ ?_
      rintro k st ⟨q, hq, rfl, rfl⟩
      have hle : ((l.take q).count c.text : Int) ≤ l.length := by
        have h1 := List.count_le_length (a := c.text) (l := l.take q)
        simp at h1; omega
      repeat (first | refine W.seq ?_ | (refine W.reg env hN (by kernel_rfl) ?_; conv => whnf) | refine W.condT rfl ?_ | refine W.condF rfl ?_ | (refine W.skip ?_; conv => whnf) | (refine W.exit ?_; conv => whnf) | refine W.block ?_ | (refine fun (hlen : (_ : Nat) ≤ _) => ?_; conv => whnf) | (refine okFp_intro (by kernel_rfl) ?_; conv => whnf) | (refine And.intro rfl ?_; conv => whnf) | (refine And.intro (by omega) ?_; conv => whnf) | (refine rowAt_of rfl ?_; conv => whnf) | (refine boolRes_true (by omega) ?_; conv => whnf) | (refine boolRes_false (by omega) ?_; conv => whnf) | (refine boolRes_true rfl ?_; conv => whnf))
      refine boolRes_split (fun hb => ?_) (fun hb => ?_) <;> conv => whnf
      · have hlt2 : q < l.length := by omega
        have hxq : (strRows l)[q]? = some [.str l[q]] := by simp [strRows, hlt2]
        have hnext : (((l.take (q + 1)).count c.text : Nat) : Int) = (l.take q).count c.text + if l[q] = c.text then 1 else 0 := by
          rw [List.take_add_one, List.getElem?_eq_getElem hlt2, Option.toList_some, count_snoc]
        repeat (first | refine W.seq ?_ | (refine W.reg env hN (by kernel_rfl) ?_; conv => whnf) | refine W.condT rfl ?_ | refine W.condF rfl ?_ | (refine W.skip ?_; conv => whnf) | (refine W.exit ?_; conv => whnf) | refine W.block ?_ | (refine fun (hlen : (_ : Nat) ≤ _) => ?_; conv => whnf) | (refine okFp_intro (by kernel_rfl) ?_; conv => whnf) | (refine And.intro rfl ?_; conv => whnf) | (refine And.intro (by omega) ?_; conv => whnf) | (refine rowAt_of rfl ?_; conv => whnf) | (refine boolRes_true (by omega) ?_; conv => whnf) | (refine boolRes_false (by omega) ?_; conv => whnf) | (refine boolRes_true rfl ?_; conv => whnf))
        refine rowAt_of hxq ?_
        conv => whnf
        repeat (first | refine W.seq ?_ | (refine W.reg env hN (by kernel_rfl) ?_; conv => whnf) | refine W.condT rfl ?_ | refine W.condF rfl ?_ | (refine W.skip ?_; conv => whnf) | (refine W.exit ?_; conv => whnf) | refine W.block ?_ | (refine fun (hlen : (_ : Nat) ≤ _) => ?_; conv => whnf) | (refine okFp_intro (by kernel_rfl) ?_; conv => whnf) | (refine And.intro rfl ?_; conv => whnf) | (refine And.intro (by omega) ?_; conv => whnf) | (refine rowAt_of rfl ?_; conv => whnf) | (refine boolRes_true (by omega) ?_; conv => whnf) | (refine boolRes_false (by omega) ?_; conv => whnf) | (refine boolRes_true rfl ?_; conv => whnf))
        refine boolRes_split (fun hb => ?_) (fun hb => ?_) <;> conv => whnf
        · rw [if_pos hb] at hnext
          repeat (first | refine W.seq ?_ | (refine W.reg env hN (by kernel_rfl) ?_; conv => whnf) | refine W.condT rfl ?_ | refine W.condF rfl ?_ | (refine W.skip ?_; conv => whnf) | (refine W.exit ?_; conv => whnf) | refine W.block ?_ | (refine fun (hlen : (_ : Nat) ≤ _) => ?_; conv => whnf) | (refine okFp_intro (by kernel_rfl) ?_; conv => whnf) | (refine And.intro rfl ?_; conv => whnf) | (refine And.intro (by omega) ?_; conv => whnf) | (refine rowAt_of rfl ?_; conv => whnf) | (refine boolRes_true (by omega) ?_; conv => whnf) | (refine boolRes_false (by omega) ?_; conv => whnf) | (refine boolRes_true rfl ?_; conv => whnf))
          refine ⟨_, _, ?_, ⟨q + 1, by omega, rfl, rfl⟩, [(22, 22)], [], [], LeG.mk' rfl rfl rfl (by rw [hnext]; repeat' (first | exact trivial | exact ⟨_, .refl _, rfl⟩ | apply And.intro)) (.cons 22 rfl rfl (.refl _) rfl .nil) rfl rfl (by rw [hK]; rfl)⟩
          omega
        · rw [if_neg hb, Int.add_zero] at hnext
          repeat (first | refine W.seq ?_ | (refine W.reg env hN (by kernel_rfl) ?_; conv => whnf) | refine W.condT rfl ?_ | refine W.condF rfl ?_ | (refine W.skip ?_; conv => whnf) | (refine W.exit ?_; conv => whnf) | refine W.block ?_ | (refine fun (hlen : (_ : Nat) ≤ _) => ?_; conv => whnf) | (refine okFp_intro (by kernel_rfl) ?_; conv => whnf) | (refine And.intro rfl ?_; conv => whnf) | (refine And.intro (by omega) ?_; conv => whnf) | (refine rowAt_of rfl ?_; conv => whnf) | (refine boolRes_true (by omega) ?_; conv => whnf) | (refine boolRes_false (by omega) ?_; conv => whnf) | (refine boolRes_true rfl ?_; conv => whnf))
          refine ⟨_, _, ?_, ⟨q + 1, by omega, rfl, rfl⟩, [(22, 22)], [], [], LeG.mk' rfl rfl rfl (by rw [hnext]; repeat' (first | exact trivial | exact ⟨_, .refl _, rfl⟩ | apply And.intro)) (.cons 22 rfl rfl (.refl _) rfl .nil) rfl rfl (by rw [hK]; rfl)⟩
          omega
      · have hqe : q = l.length := by omega
        subst hqe
        rw [List.take_length]
        repeat (first | refine W.seq ?_ | (refine W.reg env hN (by kernel_rfl) ?_; conv => whnf) | refine W.condT rfl ?_ | refine W.condF rfl ?_ | (refine W.skip ?_; conv => whnf) | (refine W.exit ?_; conv => whnf) | refine W.block ?_ | (refine fun (hlen : (_ : Nat) ≤ _) => ?_; conv => whnf) | (refine okFp_intro (by kernel_rfl) ?_; conv => whnf) | (refine And.intro rfl ?_; conv => whnf) | (refine And.intro (by omega) ?_; conv => whnf) | (refine rowAt_of rfl ?_; conv => whnf) | (refine boolRes_true (by omega) ?_; conv => whnf) | (refine boolRes_false (by omega) ?_; conv => whnf) | (refine boolRes_true rfl ?_; conv => whnf))
        refine ⟨_, _, ?_, ⟨i + 1, by omega, rfl, rfl⟩, ⟨[], [], [], LeG.mk' rfl rfl rfl (by repeat' (first | exact trivial | exact ⟨_, .refl _, rfl⟩ | apply And.intro)) .nil rfl rfl (by rw [hK]; rfl)⟩⟩
        omega
    · repeat (first | refine W.seq ?_ | (refine W.reg env hN (by kernel_rfl) ?_; conv => whnf) | refine W.condT rfl ?_ | refine W.condF rfl ?_ | (refine W.skip ?_; conv => whnf) | (refine W.exit ?_; conv => whnf) | refine W.block ?_ | (refine fun (hlen : (_ : Nat) ≤ _) => ?_; conv => whnf) | (refine okFp_intro (by kernel_rfl) ?_; conv => whnf) | (refine And.intro rfl ?_; conv => whnf) | (refine And.intro (by omega) ?_; conv => whnf) | (refine rowAt_of rfl ?_; conv => whnf) | (refine boolRes_true (by omega) ?_; conv => whnf) | (refine boolRes_false (by omega) ?_; conv => whnf) | (refine boolRes_true rfl ?_; conv => whnf) | (refine W.ret ?_; conv => whnf))
      exact ret0 rfl rfl rfl
end Go.Sx.Sp
