/- What Repeat and Sort compute. -/
import Derived.Test.YtjlfdbjgjohbcaaSpFour
set_option linter.unusedVariables false
set_option linter.unusedSimpArgs false
namespace Go.Sx.Sp
open Go Go.Sx Go.Proofs
attribute [local irreducible] GoodW
theorem and32 {n : Int} (h : 0 ≤ n ∧ n < 4294967296) : IntKind.u64.wrap ((BitVec.ofInt IntKind.u64.bits n &&& BitVec.ofInt IntKind.u64.bits 4294967295).toNat : Nat) = n := by
  obtain ⟨k, rfl⟩ := Int.eq_ofNat_of_zero_le h.1
  have hk : k < 4294967296 := by omega
  have : (BitVec.ofInt IntKind.u64.bits (k : Int) &&& BitVec.ofInt IntKind.u64.bits 4294967295).toNat = k := by
    show (BitVec.ofInt 64 (k : Int) &&& BitVec.ofInt 64 4294967295).toNat = k
    rw [BitVec.toNat_and]
    have h1 : (BitVec.ofInt 64 (k : Int)).toNat = k := by simp; omega
    have h2 : (BitVec.ofInt 64 4294967295).toNat = 4294967295 := by decide
    rw [h1, h2, show 4294967295 = 2 ^ 32 - 1 by decide, Nat.and_two_pow_sub_one_eq_mod]
    omega
  rw [this, IntWalk.u64_in _ (by omega)]
theorem shr32 {n : Int} (h : 0 ≤ n ∧ n < 4294967296) : n.fdiv (2 ^ min (Int.toNat 32) IntKind.u64.bits) = 0 := by
  rw [show (2 : Int) ^ min (Int.toNat 32) IntKind.u64.bits = 4294967296 by decide, Int.fdiv_eq_ediv_of_nonneg _ (by omega)]
  omega
set_option maxHeartbeats 2000000 in
theorem mul64_spec (n : Int) (h : 0 ≤ n ∧ n < 4294967296) : Spec Try.prog 62 [.int .u64 1, .int .u64 n] [] (.tup [.int .u64 0, .int .u64 n]) [] := by
  have a1 := and32 (n := 1) (by omega)
  have s1 := shr32 (n := 1) (by omega)
  have a0 := and32 (n := 0) (by omega)
  have s0 := shr32 (n := 0) (by omega)
  have an := and32 h
  have sn := shr32 h
  have w1 : IntKind.u64.wrap (1 * n) = n := by rw [Int.one_mul]; exact IntWalk.u64_in _ (by omega)
  have w2 : IntKind.u64.wrap (0 * n) = 0 := by rw [Int.zero_mul]; exact IntWalk.u64_in _ (by omega)
  have w3 : IntKind.u64.wrap (0 + 0) = 0 := IntWalk.u64_in _ (by omega)
  have w4 : IntKind.u64.wrap (1 * 0) = 0 := IntWalk.u64_in _ (by omega)
  have w5 : IntKind.u64.wrap (0 * 0) = 0 := IntWalk.u64_in _ (by omega)
  refine Spec.body env Try.func62 rfl (by kernel_rfl) (Nat.le_of_ble_eq_true (by kernel_rfl)) (keysSub rfl) fun Γ hN hK => ?_; have hML : maxLen = 9223372036854775807 := by unfold maxLen; rfl
  repeat (first | refine W.seq ?_ | (refine W.reg env hN (by kernel_rfl) ?_; conv => whnf) | refine W.condT rfl ?_ | refine W.condF rfl ?_ | (refine W.skip ?_; conv => whnf) | (refine W.exit ?_; conv => whnf) | refine W.block ?_ | (refine fun (hlen : (_ : Nat) ≤ _) => ?_; conv => whnf) | (refine okFp_intro (by kernel_rfl) ?_; conv => whnf) | (refine And.intro rfl ?_; conv => whnf) | (refine And.intro (by omega) ?_; conv => whnf) | (refine rowAt_of rfl ?_; conv => whnf) | (refine boolRes_true (by omega) ?_; conv => whnf) | (refine boolRes_false (by omega) ?_; conv => whnf) | (refine boolRes_true rfl ?_; conv => whnf))
  try simp only [a1, s1, a0, s0, an, sn, w1, w2, w3, w4, w5]
  (refine W.ret ?_; conv => whnf)
  exact ret0 rfl rfl rfl
set_option maxHeartbeats 2000000 in
theorem mul_spec (n : Int) (h : 0 ≤ n ∧ n < 4294967296) : Spec Try.prog 56 [.int .u64 1, .int .u64 n] [] (.tup [.int .u64 0, .int .u64 n]) [] := by
  refine Spec.body env Try.func56 rfl (by kernel_rfl) (Nat.le_of_ble_eq_true (by kernel_rfl)) (keysSub rfl) fun Γ hN hK => ?_; have hML : maxLen = 9223372036854775807 := by unfold maxLen; rfl
  repeat (first | refine W.seq ?_ | (refine W.reg env hN (by kernel_rfl) ?_; conv => whnf) | refine W.condT rfl ?_ | refine W.condF rfl ?_ | (refine W.skip ?_; conv => whnf) | (refine W.exit ?_; conv => whnf) | refine W.block ?_ | (refine fun (hlen : (_ : Nat) ≤ _) => ?_; conv => whnf) | (refine okFp_intro (by kernel_rfl) ?_; conv => whnf) | (refine And.intro rfl ?_; conv => whnf) | (refine And.intro (by omega) ?_; conv => whnf) | (refine rowAt_of rfl ?_; conv => whnf) | (refine boolRes_true (by omega) ?_; conv => whnf) | (refine boolRes_false (by omega) ?_; conv => whnf) | (refine boolRes_true rfl ?_; conv => whnf))
  (refine ⟨_, _, _, callG [] [] [] rfl rfl rfl (by kernel_rfl) (mul64_spec n h) (by repeat' (first | exact trivial | exact Lent.refl _ | exact Lent.norm _ | apply And.intro)) rfl ⟨rfl, rfl, rfl, rfl, rfl, by repeat' (first | exact trivial | rfl | apply And.intro), rfl, rfl⟩, ?_⟩; conv => whnf)
  repeat (first | refine W.seq ?_ | (refine W.reg env hN (by kernel_rfl) ?_; conv => whnf) | refine W.condT rfl ?_ | refine W.condF rfl ?_ | (refine W.skip ?_; conv => whnf) | (refine W.exit ?_; conv => whnf) | refine W.block ?_ | (refine fun (hlen : (_ : Nat) ≤ _) => ?_; conv => whnf) | (refine okFp_intro (by kernel_rfl) ?_; conv => whnf) | (refine And.intro rfl ?_; conv => whnf) | (refine And.intro (by omega) ?_; conv => whnf) | (refine rowAt_of rfl ?_; conv => whnf) | (refine boolRes_true (by omega) ?_; conv => whnf) | (refine boolRes_false (by omega) ?_; conv => whnf) | (refine boolRes_true rfl ?_; conv => whnf) | (refine W.ret ?_; conv => whnf))
  exact ret0 rfl rfl rfl
theorem copyRows {t : List UInt8} {n p : Nat} {z : List V} (hp : 1 ≤ p) (hpn : p < n) :
    List.take p (List.replicate p [V.str t] ++ List.replicate (n - p) z) ++ (List.take (min p (n - p)) (List.replicate p [V.str t]) ++ List.drop (p + min p (n - p)) (List.replicate p [V.str t] ++ List.replicate (n - p) z)) =
      List.replicate (p + min p (n - p)) [V.str t] ++ List.replicate (n - (p + min p (n - p))) z := by
  have h1 : (List.replicate p [V.str t]).length = p := by simp
  rw [take_pre h1, drop_pre _ h1, List.drop_replicate, List.take_replicate, ← List.append_assoc, List.replicate_append_replicate]
  congr 1
  · congr 1; omega
  · congr 1; omega
set_option maxHeartbeats 4000000 in
theorem repeatH_spec (t : List UInt8) (n : Nat) (hn : 1 ≤ n ∧ n ≤ 2000000) : Spec Try.prog 43 [.osl 0 0 0 1 1, .int .i64 n] [(0, .rows 1 [[.str t]] none)] (.sl (List.replicate n [.str t]) false) [(0, .gone)] := by
  have hw : IntKind.u64.wrap (n : Int) = n := IntWalk.u64_in _ (by omega)
  have hw1 : IntKind.u64.wrap ((1 : Nat) : Int) = 1 := IntWalk.u64_in _ (by omega)
  refine Spec.body env Try.func43 rfl (by kernel_rfl) (Nat.le_of_ble_eq_true (by kernel_rfl)) (keysSub rfl) fun Γ hN hK => ?_; have hML : maxLen = 9223372036854775807 := by unfold maxLen; rfl
  refine W.leG (mp := [(0, 0)]) (bo := [0]) (st' := ⟨[(0, .sl [[.str t]] false), (1, .int .i64 n)], [(0, [.gone])], [0]⟩) (LeG.mk' rfl rfl rfl ⟨⟨_, Lent.whole rfl rfl rfl rfl (.inr rfl), rfl⟩, ⟨_, .refl _, rfl⟩, trivial⟩ (.gone 0 rfl rfl rfl .nil) rfl rfl (by rw [hK]; rfl)) ?_
  repeat (first | refine W.seq ?_ | (refine W.reg env hN (by kernel_rfl) ?_; conv => whnf) | refine W.condT rfl ?_ | refine W.condF rfl ?_ | (refine W.skip ?_; conv => whnf) | (refine W.exit ?_; conv => whnf) | refine W.block ?_ | (refine fun (hlen : (_ : Nat) ≤ _) => ?_; conv => whnf) | (refine okFp_intro (by kernel_rfl) ?_; conv => whnf) | (refine And.intro rfl ?_; conv => whnf) | (refine And.intro (by omega) ?_; conv => whnf) | (refine rowAt_of rfl ?_; conv => whnf) | (refine boolRes_true (by omega) ?_; conv => whnf) | (refine boolRes_false (by omega) ?_; conv => whnf) | (refine boolRes_true rfl ?_; conv => whnf))
  rw [show ([[V.str t]].length : Nat) = 1 from rfl, hw1, hw]
  (refine ⟨_, _, _, callG [] [] [] rfl rfl rfl (by kernel_rfl) (mul_spec n (by omega)) (by repeat' (first | exact trivial | exact Lent.refl _ | exact Lent.norm _ | apply And.intro)) rfl ⟨rfl, rfl, rfl, rfl, rfl, by repeat' (first | exact trivial | rfl | apply And.intro), rfl, rfl⟩, ?_⟩; conv => whnf)
  repeat (first | refine W.seq ?_ | (refine W.reg env hN (by kernel_rfl) ?_; conv => whnf) | (refine W.skip ?_; conv => whnf) | (refine W.exit ?_; conv => whnf) | refine W.block ?_ | (refine fun (hlen : (_ : Nat) ≤ _) => ?_; conv => whnf) | (refine okFp_intro (by kernel_rfl) ?_; conv => whnf) | (refine And.intro rfl ?_; conv => whnf) | (refine And.intro (by omega) ?_; conv => whnf) | (refine rowAt_of rfl ?_; conv => whnf) | (refine boolRes_true (by omega) ?_; conv => whnf) | (refine boolRes_false (by omega) ?_; conv => whnf) | (refine boolRes_true rfl ?_; conv => whnf))
  refine W.condF rfl ?_
  refine W.skip ?_
  conv => whnf
  refine W.seq ?_
  (refine W.reg env hN (by kernel_rfl) ?_; conv => whnf)
  repeat (first | (refine fun (hlen : (_ : Nat) ≤ _) => ?_; conv => whnf) | (refine okFp_intro (by kernel_rfl) ?_; conv => whnf) | (refine And.intro rfl ?_; conv => whnf) | (refine And.intro (by omega) ?_; conv => whnf) | (refine rowAt_of rfl ?_; conv => whnf) | (refine boolRes_true (by omega) ?_; conv => whnf) | (refine boolRes_false (by omega) ?_; conv => whnf) | (refine boolRes_true rfl ?_; conv => whnf))
  refine ⟨⟨by omega, by omega, (by show (n : Int) * (16 : Nat) ≤ _; omega), by omega⟩, ?_⟩
  conv => whnf
  repeat (first | (refine fun (hlen : (_ : Nat) ≤ _) => ?_; conv => whnf) | (refine okFp_intro (by kernel_rfl) ?_; conv => whnf) | (refine And.intro rfl ?_; conv => whnf) | (refine And.intro (by omega) ?_; conv => whnf) | (refine rowAt_of rfl ?_; conv => whnf) | (refine boolRes_true (by omega) ?_; conv => whnf) | (refine boolRes_false (by omega) ?_; conv => whnf) | (refine boolRes_true rfl ?_; conv => whnf))
  refine W.seq ?_
  (refine W.reg env hN (by kernel_rfl) ?_; conv => whnf)
  repeat (first | (refine fun (hlen : (_ : Nat) ≤ _) => ?_; conv => whnf) | (refine okFp_intro (by kernel_rfl) ?_; conv => whnf) | (refine And.intro rfl ?_; conv => whnf) | (refine And.intro (by omega) ?_; conv => whnf) | (refine rowAt_of rfl ?_; conv => whnf) | (refine boolRes_true (by omega) ?_; conv => whnf) | (refine boolRes_false (by omega) ?_; conv => whnf) | (refine boolRes_true rfl ?_; conv => whnf))
  refine ⟨⟨?_, ?_⟩, ?_⟩
  · show rowsSz [[V.str t]] 1
    unfold rowsSz; simp
  · show ((n : Nat) : Int).toNat = (List.replicate ((n : Nat) : Int).toNat [V.str []]).length
    simp
  conv => whnf
  repeat (first | (refine fun (hlen : (_ : Nat) ≤ _) => ?_; conv => whnf) | (refine okFp_intro (by kernel_rfl) ?_; conv => whnf) | (refine And.intro rfl ?_; conv => whnf) | (refine And.intro (by omega) ?_; conv => whnf) | (refine rowAt_of rfl ?_; conv => whnf) | (refine boolRes_true (by omega) ?_; conv => whnf) | (refine boolRes_false (by omega) ?_; conv => whnf) | (refine boolRes_true rfl ?_; conv => whnf))
  have hmin : min [[V.str t]].length ((n : Nat) : Int).toNat = 1 := by simp; omega
  have hrows1 : List.replicate 1 [V.str t] ++ List.replicate (n - 1) [V.str []] = List.take 0 (List.replicate ((n : Nat) : Int).toNat [V.str []]) ++ (List.take (min [[V.str t]].length ((n : Nat) : Int).toNat) [[V.str t]] ++ List.drop (0 + min [[V.str t]].length ((n : Nat) : Int).toNat) (List.replicate ((n : Nat) : Int).toNat [V.str []])) := by
    rw [hmin, Int.toNat_natCast, List.drop_replicate]; rfl
  refine W.seq ?_
  refine W.block ?_
  refine W.loopG (fun k st => ∃ p : Nat, 1 ≤ p ∧ p ≤ n ∧ k = n - p ∧ st = ⟨[(7, .osl 30 0 0 n n), (8, .int .i64 p)], [(0, [.gone]), (30, [.rows 1 (List.replicate p [.str t] ++ List.replicate (n - p) [.str []]) (some [])])], [0, 30]⟩)
    (n - 1) _ ⟨1, by omega, by omega, rfl, rfl⟩ ⟨[(0, 0), (30, 30)], [], [], LeG.mk' rfl rfl rfl (by exact ⟨⟨_, .refl _, (by show V.osl 30 0 0 ((n : Nat) : Int).toNat ((n : Nat) : Int).toNat = _; rw [Int.toNat_natCast])⟩, ⟨_, .refl _, (by show V.int .i64 ((min [[V.str t]].length ((n : Nat) : Int).toNat : Nat) : Int) = _; rw [hmin])⟩, trivial⟩) (.gone 0 rfl rfl rfl (.cons 30 rfl rfl (.refl _) (by rw [hrows1]; rfl) .nil)) rfl rfl (by rw [hK]; rfl)⟩ ?_
  rintro k st ⟨p, hp1, hpn, rfl, rfl⟩
  have hrl : (List.replicate p [V.str t] ++ List.replicate (n - p) [V.str []]).length = n := by simp; omega
  repeat (first | refine W.seq ?_ | (refine W.reg env hN (by kernel_rfl) ?_; conv => whnf) | refine W.condT rfl ?_ | refine W.condF rfl ?_ | (refine W.skip ?_; conv => whnf) | (refine W.exit ?_; conv => whnf) | refine W.block ?_ | (refine fun (hlen : (_ : Nat) ≤ _) => ?_; conv => whnf) | (refine okFp_intro (by kernel_rfl) ?_; conv => whnf) | (refine And.intro rfl ?_; conv => whnf) | (refine And.intro (by omega) ?_; conv => whnf) | (refine rowAt_of rfl ?_; conv => whnf) | (refine boolRes_true (by omega) ?_; conv => whnf) | (refine boolRes_false (by omega) ?_; conv => whnf) | (refine boolRes_true rfl ?_; conv => whnf))
  refine boolRes_split (fun hb => ?_) (fun hb => ?_) <;> conv => whnf
  · have hlt : p < n := by omega
    have hcr := copyRows (t := t) (z := [V.str []]) hp1 hlt
    have e1 : ((n : Nat) : Int).toNat = n := Int.toNat_natCast n
    have e2 : ((p : Nat) : Int).toNat = p := Int.toNat_natCast p
    have hpl : (List.replicate p [V.str t]).length = p := by simp
    have htk : List.take p (List.replicate p [V.str t] ++ List.replicate (n - p) [V.str []]) = List.replicate p [V.str t] := take_pre hpl
    repeat (first | refine W.seq ?_ | (refine W.reg env hN (by kernel_rfl) ?_; conv => whnf) | refine W.condT rfl ?_ | refine W.condF rfl ?_ | (refine W.skip ?_; conv => whnf) | (refine W.exit ?_; conv => whnf) | refine W.block ?_ | (refine fun (hlen : (_ : Nat) ≤ _) => ?_; conv => whnf) | (refine okFp_intro (by kernel_rfl) ?_; conv => whnf) | (refine And.intro rfl ?_; conv => whnf) | (refine And.intro (by omega) ?_; conv => whnf) | (refine rowAt_of rfl ?_; conv => whnf) | (refine boolRes_true (by omega) ?_; conv => whnf) | (refine boolRes_false (by omega) ?_; conv => whnf) | (refine boolRes_true rfl ?_; conv => whnf))
    refine ⟨_, _, ?_, ⟨p + min p (n - p), by omega, by omega, rfl, rfl⟩, [(0, 0), (30, 30)], [], [], LeG.mk' rfl rfl rfl ⟨⟨_, .refl _, rfl⟩, ⟨_, .refl _, (by
        show V.int .i64 ((p : Int) + ((min (List.take ((p : Nat) : Int).toNat (List.replicate p [V.str t] ++ List.replicate (n - p) [V.str []])).length (((n : Nat) : Int).toNat - ((p : Nat) : Int).toNat) : Nat) : Int)) = _
        rw [e1, e2, htk, hpl]; rfl)⟩, trivial⟩
      (.gone 0 rfl rfl rfl (.cons 30 rfl rfl (.refl _) (by
        show _ = [Blk.rows 1 (List.take (0 + ((p : Nat) : Int).toNat) (List.replicate p [V.str t] ++ List.replicate (n - p) [V.str []]) ++ (List.take (min (List.take ((p : Nat) : Int).toNat (List.replicate p [V.str t] ++ List.replicate (n - p) [V.str []])).length (((n : Nat) : Int).toNat - ((p : Nat) : Int).toNat)) (List.take ((p : Nat) : Int).toNat (List.replicate p [V.str t] ++ List.replicate (n - p) [V.str []])) ++ List.drop (0 + ((p : Nat) : Int).toNat + min (List.take ((p : Nat) : Int).toNat (List.replicate p [V.str t] ++ List.replicate (n - p) [V.str []])).length (((n : Nat) : Int).toNat - ((p : Nat) : Int).toNat)) (List.replicate p [V.str t] ++ List.replicate (n - p) [V.str []]))) (some [])]
        rw [e1, e2, Nat.zero_add, htk, hpl, ← hcr, htk]) .nil)) rfl rfl (by rw [hK]; rfl)⟩
    omega
  · have hpe : p = n := by omega
    subst hpe
    repeat (first | refine W.seq ?_ | (refine W.reg env hN (by kernel_rfl) ?_; conv => whnf) | refine W.condT rfl ?_ | refine W.condF rfl ?_ | (refine W.skip ?_; conv => whnf) | (refine W.exit ?_; conv => whnf) | refine W.block ?_ | (refine fun (hlen : (_ : Nat) ≤ _) => ?_; conv => whnf) | (refine okFp_intro (by kernel_rfl) ?_; conv => whnf) | (refine And.intro rfl ?_; conv => whnf) | (refine And.intro (by omega) ?_; conv => whnf) | (refine rowAt_of rfl ?_; conv => whnf) | (refine boolRes_true (by omega) ?_; conv => whnf) | (refine boolRes_false (by omega) ?_; conv => whnf) | (refine boolRes_true rfl ?_; conv => whnf))
    refine W.leG (mp := [(0, 0)]) (bo := [30]) (st' := ⟨[(4, .sl (List.replicate p [.str t]) false)], [(0, [.gone])], [0]⟩) (LeG.mk' rfl rfl rfl ⟨⟨_, Lent.whole (rows := List.replicate p [V.str t] ++ List.replicate (p - p) [V.str []]) rfl rfl hrl.symm rfl (.inl rfl), (by show V.sl (List.replicate p [V.str t] ++ List.replicate (p - p) [V.str []]) false = _; rw [Nat.sub_self]; simp)⟩, trivial⟩ (.gone 0 rfl rfl rfl .nil) rfl rfl (by rw [hK]; rfl)) ?_
    (refine W.ret ?_; conv => whnf)
    exact retH rfl (.refl _) rfl rfl rfl ⟨rfl, rfl, trivial⟩
end Go.Sx.Sp
namespace Go.Sx.Sp
open Go Go.Sx Go.Proofs
attribute [local irreducible] GoodW
def expand : List Count → List (List UInt8)
  | [] => []
  | c :: u => List.replicate c.count.toNat c.text ++ expand u
theorem expand_len : ∀ {u : List Count}, Pos u → ((expand u).length : Int) = total u
  | [], _ => by simp [expand, total]
  | c :: u, h => by
    have h1 := h c (by simp)
    have h2 := expand_len (u := u) fun x hx => h x (List.mem_cons_of_mem _ hx)
    rw [expand, List.length_append, List.length_replicate, total_cons]; omega
theorem expand_append : ∀ (a b : List Count), expand (a ++ b) = expand a ++ expand b
  | [], b => rfl
  | c :: a, b => by simp only [List.cons_append, expand, expand_append a b, List.append_assoc]
theorem out_total {s : Spill} {k : Nat} (h : Good s k) : total s.out = k := by
  have h1 := h.fin.sum
  rw [fin_buf] at h1
  rcases fin_runs s with ⟨h2, h3⟩ | h2
  · rw [h2] at h1; rw [h3]; simpa [total, sumTotal] using h1
  · rw [h2] at h1; simpa [total, sumTotal] using h1
set_option maxHeartbeats 8000000 in
theorem sort_spec (l : List (List UInt8)) (m : Int) (hm : 2 ≤ m ∧ m ≤ 65536) (hl : l.length ≤ 900) : Spec Try.prog 20 [.sl (strRows l) false, .int .i64 m] [] (.tup [.sl (strRows (expand (pushL (Spill.new m) l).out)) false, (pushL (Spill.new m) l).fin.v, .int .i64 0]) [] := by
  have hfm : fits m = true := by simp [fits]; omega
  have hll := strRows_len l
  have hw0 := Way.new hm
  refine Spec.body env Try.func20 rfl (by kernel_rfl) (Nat.le_of_ble_eq_true (by kernel_rfl)) (keysSub rfl) fun Γ hN hK => ?_; have hML : maxLen = 9223372036854775807 := by unfold maxLen; rfl
  repeat (first | refine W.seq ?_ | (refine W.reg env hN (by kernel_rfl) ?_; conv => whnf) | refine W.condT rfl ?_ | refine W.condF rfl ?_ | (refine W.skip ?_; conv => whnf) | (refine W.exit ?_; conv => whnf) | refine W.block ?_ | (refine fun (hlen : (_ : Nat) ≤ _) => ?_; conv => whnf) | (refine okFp_intro (by kernel_rfl) ?_; conv => whnf) | (refine And.intro rfl ?_; conv => whnf) | (refine And.intro (by omega) ?_; conv => whnf) | (refine rowAt_of rfl ?_; conv => whnf) | (refine boolRes_true (by omega) ?_; conv => whnf) | (refine boolRes_false (by omega) ?_; conv => whnf) | (refine boolRes_true rfl ?_; conv => whnf))
  (refine ⟨_, _, _, callG [] [] [] rfl rfl rfl (by kernel_rfl) (new_spec m hfm) (by repeat' (first | exact trivial | exact Lent.refl _ | exact Lent.norm _ | apply And.intro)) rfl ⟨rfl, rfl, rfl, rfl, rfl, by repeat' (first | exact trivial | rfl | apply And.intro), rfl, rfl⟩, ?_⟩; conv => whnf)
  repeat (first | refine W.seq ?_ | (refine W.reg env hN (by kernel_rfl) ?_; conv => whnf) | refine W.condT rfl ?_ | refine W.condF rfl ?_ | (refine W.skip ?_; conv => whnf) | (refine W.exit ?_; conv => whnf) | refine W.block ?_ | (refine fun (hlen : (_ : Nat) ≤ _) => ?_; conv => whnf) | (refine okFp_intro (by kernel_rfl) ?_; conv => whnf) | (refine And.intro rfl ?_; conv => whnf) | (refine And.intro (by omega) ?_; conv => whnf) | (refine rowAt_of rfl ?_; conv => whnf) | (refine boolRes_true (by omega) ?_; conv => whnf) | (refine boolRes_false (by omega) ?_; conv => whnf) | (refine boolRes_true rfl ?_; conv => whnf))
  (refine ⟨_, _, _, callG [] [(1, 60), (7, 61), (11, 62)] [] rfl rfl rfl (by kernel_rfl) (own_own (Spill.new m) (hw0.good.small (by decide))) (by repeat' (first | exact trivial | exact Lent.refl _ | exact Lent.norm _ | apply And.intro)) rfl ⟨rfl, rfl, rfl, rfl, rfl, by repeat' (first | exact trivial | rfl | apply And.intro), rfl, rfl⟩, ?_⟩; conv => whnf)
  repeat (first | refine W.seq ?_ | (refine W.reg env hN (by kernel_rfl) ?_; conv => whnf) | refine W.condT rfl ?_ | refine W.condF rfl ?_ | (refine W.skip ?_; conv => whnf) | (refine W.exit ?_; conv => whnf) | refine W.block ?_ | (refine fun (hlen : (_ : Nat) ≤ _) => ?_; conv => whnf) | (refine okFp_intro (by kernel_rfl) ?_; conv => whnf) | (refine And.intro rfl ?_; conv => whnf) | (refine And.intro (by omega) ?_; conv => whnf) | (refine rowAt_of rfl ?_; conv => whnf) | (refine boolRes_true (by omega) ?_; conv => whnf) | (refine boolRes_false (by omega) ?_; conv => whnf) | (refine boolRes_true rfl ?_; conv => whnf))
  refine W.loopG (fun k st => ∃ j : Nat, j ≤ l.length ∧ k = l.length - j ∧ st = ⟨[(5, .bp 5 0), (9, .bp 60 0), (32, .sl (strRows l) false), (33, .int .i64 (strRows l).length), (34, .int .i64 j)], [(5, [.rows 5 [[.int .i64 0, .nils, .nils, .int .i64 0, .int .i64 0]] none]), (60, [(pushL (Spill.new m) (l.take j)).own 61 62]), (61, [.rows 2 (countRows (pushL (Spill.new m) (l.take j)).buf) (some [])]), (62, [.rows 1 (runRows (pushL (Spill.new m) (l.take j)).runs) (some [])])], [5, 60, 61, 62]⟩)
    l.length _ ⟨0, by omega, rfl, rfl⟩ ⟨[(5, 5), (60, 60), (61, 61), (62, 62)], [], [], LeG.mk' rfl rfl rfl (by repeat' (first | exact trivial | exact ⟨_, .refl _, rfl⟩ | apply And.intro)) (.cons 5 rfl rfl (.refl _) rfl (.cons 60 rfl rfl (.refl _) rfl (.cons 61 rfl rfl (.refl _) rfl (.cons 62 rfl rfl (.refl _) rfl .nil)))) rfl rfl (by rw [hK]; rfl)⟩ ?_
  rintro k st ⟨j, hj, rfl, rfl⟩
  repeat (first | refine W.seq ?_ | (refine W.reg env hN (by kernel_rfl) ?_; conv => whnf) | refine W.condT rfl ?_ | refine W.condF rfl ?_ | (refine W.skip ?_; conv => whnf) | (refine W.exit ?_; conv => whnf) | refine W.block ?_ | (refine fun (hlen : (_ : Nat) ≤ _) => ?_; conv => whnf) | (refine okFp_intro (by kernel_rfl) ?_; conv => whnf) | (refine And.intro rfl ?_; conv => whnf) | (refine And.intro (by omega) ?_; conv => whnf) | (refine rowAt_of rfl ?_; conv => whnf) | (refine boolRes_true (by omega) ?_; conv => whnf) | (refine boolRes_false (by omega) ?_; conv => whnf) | (refine boolRes_true rfl ?_; conv => whnf))
  refine boolRes_split (fun hb => ?_) (fun hb => ?_) <;> conv => whnf
  · have hlt : j < l.length := by omega
    have hxj : (strRows l)[j]? = some [.str l[j]] := by simp [strRows, hlt]
    have hlx : (l.take j).length = j := by simp; omega
    have hw := way_pushL hw0 (l.take j) (by omega)
    have hww := hw.written
    have hfine := hw.good.fine (by omega) ⟨hww.1, by omega⟩
    have hnext : pushL (Spill.new m) (l.take (j + 1)) = (pushL (Spill.new m) (l.take j)).push l[j] := by
      rw [List.take_add_one, List.getElem?_eq_getElem hlt, Option.toList_some, pushL_snoc]
    have sp := push_spec (pushL (Spill.new m) (l.take j)) l[j] hfine
    rw [← hnext] at sp
    repeat (first | refine W.seq ?_ | (refine W.reg env hN (by kernel_rfl) ?_; conv => whnf) | refine W.condT rfl ?_ | refine W.condF rfl ?_ | (refine W.skip ?_; conv => whnf) | (refine W.exit ?_; conv => whnf) | refine W.block ?_ | (refine fun (hlen : (_ : Nat) ≤ _) => ?_; conv => whnf) | (refine okFp_intro (by kernel_rfl) ?_; conv => whnf) | (refine And.intro rfl ?_; conv => whnf) | (refine And.intro (by omega) ?_; conv => whnf) | (refine rowAt_of rfl ?_; conv => whnf) | (refine boolRes_true (by omega) ?_; conv => whnf) | (refine boolRes_false (by omega) ?_; conv => whnf) | (refine boolRes_true rfl ?_; conv => whnf))
    refine rowAt_of hxj ?_
    conv => whnf
    repeat (first | refine W.seq ?_ | (refine W.reg env hN (by kernel_rfl) ?_; conv => whnf) | refine W.condT rfl ?_ | refine W.condF rfl ?_ | (refine W.skip ?_; conv => whnf) | (refine W.exit ?_; conv => whnf) | refine W.block ?_ | (refine fun (hlen : (_ : Nat) ≤ _) => ?_; conv => whnf) | (refine okFp_intro (by kernel_rfl) ?_; conv => whnf) | (refine And.intro rfl ?_; conv => whnf) | (refine And.intro (by omega) ?_; conv => whnf) | (refine rowAt_of rfl ?_; conv => whnf) | (refine boolRes_true (by omega) ?_; conv => whnf) | (refine boolRes_false (by omega) ?_; conv => whnf) | (refine boolRes_true rfl ?_; conv => whnf))
    (refine ⟨_, _, _, callG [(0, 60), (1, 61), (2, 62)] [(49, 63)] [] rfl rfl rfl (by kernel_rfl) (sp) (by repeat' (first | exact trivial | exact Lent.refl _ | exact Lent.norm _ | apply And.intro)) rfl ⟨rfl, rfl, rfl, rfl, rfl, by repeat' (first | exact trivial | rfl | apply And.intro), rfl, rfl⟩, ?_⟩; conv => whnf)
    repeat (first | refine W.seq ?_ | (refine W.reg env hN (by kernel_rfl) ?_; conv => whnf) | refine W.condT rfl ?_ | refine W.condF rfl ?_ | (refine W.skip ?_; conv => whnf) | (refine W.exit ?_; conv => whnf) | refine W.block ?_ | (refine fun (hlen : (_ : Nat) ≤ _) => ?_; conv => whnf) | (refine okFp_intro (by kernel_rfl) ?_; conv => whnf) | (refine And.intro rfl ?_; conv => whnf) | (refine And.intro (by omega) ?_; conv => whnf) | (refine rowAt_of rfl ?_; conv => whnf) | (refine boolRes_true (by omega) ?_; conv => whnf) | (refine boolRes_false (by omega) ?_; conv => whnf) | (refine boolRes_true rfl ?_; conv => whnf))
    refine ⟨_, _, ?_, ⟨j + 1, by omega, rfl, rfl⟩, [(5, 5), (60, 60), (62, 62), (63, 61)], [], [], LeG.mk' rfl rfl rfl (by repeat' (first | exact trivial | exact ⟨_, .refl _, rfl⟩ | apply And.intro)) (.cons 5 rfl rfl (.refl _) rfl (.cons 60 rfl rfl (.refl _) rfl (.cons 63 rfl rfl (.refl _) rfl (.cons 62 rfl rfl (.refl _) rfl .nil)))) rfl rfl (by rw [hK]; rfl)⟩
    omega
  · have hje : j = l.length := by omega
    subst hje
    rw [List.take_length]
    have hw := way_pushL hw0 l (by omega)
    have hww := hw.written
    have h1 := @flush_written_le (pushL (Spill.new m) l)
    have h2 := @flush_written_ge (pushL (Spill.new m) l)
    obtain ⟨h3, _⟩ := hw.good.bounds
    have hlim := hw.good.lim (by omega) ⟨by omega, by omega⟩
    have hfs := finish_spec (pushL (Spill.new m) l) 1048576 (hw.good.small (by omega)) ⟨hww.1, by omega⟩ hlim
    have hfin := own_data (pushL (Spill.new m) l).fin (fin_small hlim)
    have hnil := blk_nil (fin_buf (pushL (Spill.new m) l))
    have hgo := out_good hw.good
    have hto := out_total hw.good
    generalize pushL (Spill.new m) l = x at *
    have hol := countRows_len x.out
    have hexp := expand_len hgo.2
    generalize hu : x.out = u at *
    repeat (first | refine W.seq ?_ | (refine W.reg env hN (by kernel_rfl) ?_; conv => whnf) | refine W.condT rfl ?_ | refine W.condF rfl ?_ | (refine W.skip ?_; conv => whnf) | (refine W.exit ?_; conv => whnf) | refine W.block ?_ | (refine fun (hlen : (_ : Nat) ≤ _) => ?_; conv => whnf) | (refine okFp_intro (by kernel_rfl) ?_; conv => whnf) | (refine And.intro rfl ?_; conv => whnf) | (refine And.intro (by omega) ?_; conv => whnf) | (refine rowAt_of rfl ?_; conv => whnf) | (refine boolRes_true (by omega) ?_; conv => whnf) | (refine boolRes_false (by omega) ?_; conv => whnf) | (refine boolRes_true rfl ?_; conv => whnf))
    (refine ⟨_, _, _, callG [(0, 60), (1, 61), (2, 62)] [(50, 63)] [] rfl rfl rfl (by kernel_rfl) (hfs) (by repeat' (first | exact trivial | exact Lent.refl _ | exact Lent.norm _ | apply And.intro)) rfl ⟨rfl, rfl, rfl, rfl, rfl, by repeat' (first | exact trivial | rfl | apply And.intro), rfl, rfl⟩, ?_⟩; conv => whnf)
    repeat (first | refine W.seq ?_ | (refine W.reg env hN (by kernel_rfl) ?_; conv => whnf) | (refine W.skip ?_; conv => whnf) | (refine W.exit ?_; conv => whnf) | refine W.block ?_ | (refine fun (hlen : (_ : Nat) ≤ _) => ?_; conv => whnf) | (refine okFp_intro (by kernel_rfl) ?_; conv => whnf) | (refine And.intro rfl ?_; conv => whnf) | (refine And.intro (by omega) ?_; conv => whnf) | (refine rowAt_of rfl ?_; conv => whnf) | (refine boolRes_true (by omega) ?_; conv => whnf) | (refine boolRes_false (by omega) ?_; conv => whnf) | (refine boolRes_true rfl ?_; conv => whnf))
    refine W.ownNil 12 64 1 (by rfl) (by rfl) ?_
    refine W.loopG (fun k st => ∃ i : Nat, i ≤ u.length ∧ k = u.length - i ∧ st = ⟨[(5, .bp 5 0), (9, .bp 60 0), (12, .osl 64 0 0 (strRows (expand (u.take i))).length (strRows (expand (u.take i))).length), (43, .sl (countRows u) false), (44, .int .i64 (countRows u).length), (45, .int .i64 i)], [(5, [.rows 5 [[.int .i64 0, .nils, .nils, .int .i64 0, .int .i64 0]] none]), (60, [x.fin.ownNil 63]), (63, [.rows 1 (runRows x.fin.runs) (some [])]), (64, [.rows 1 (strRows (expand (u.take i))) (some [])])], [5, 60, 63, 64]⟩)
      u.length _ ⟨0, by omega, rfl, rfl⟩ ⟨[(5, 5), (60, 60), (63, 63), (64, 64)], [], [], LeG.mk' rfl rfl rfl (by repeat' (first | exact trivial | exact ⟨_, .refl _, rfl⟩ | apply And.intro)) (.cons 5 rfl rfl (.refl _) rfl (.cons 60 rfl rfl (.refl _) rfl (.cons 63 rfl rfl (.refl _) rfl (.cons 64 rfl rfl (.refl _) rfl .nil)))) rfl rfl (by rw [hK]; rfl)⟩ ?_
    rintro k st ⟨i, hi, rfl, rfl⟩
    repeat (first | refine W.seq ?_ | (refine W.reg env hN (by kernel_rfl) ?_; conv => whnf) | refine W.condT rfl ?_ | refine W.condF rfl ?_ | (refine W.skip ?_; conv => whnf) | (refine W.exit ?_; conv => whnf) | refine W.block ?_ | (refine fun (hlen : (_ : Nat) ≤ _) => ?_; conv => whnf) | (refine okFp_intro (by kernel_rfl) ?_; conv => whnf) | (refine And.intro rfl ?_; conv => whnf) | (refine And.intro (by omega) ?_; conv => whnf) | (refine rowAt_of rfl ?_; conv => whnf) | (refine boolRes_true (by omega) ?_; conv => whnf) | (refine boolRes_false (by omega) ?_; conv => whnf) | (refine boolRes_true rfl ?_; conv => whnf))
    refine boolRes_split (fun hb => ?_) (fun hb => ?_) <;> conv => whnf
    · have hlt : i < u.length := by omega
      have hget := countRows_get hlt
      have hpos := hgo.2 u[i] (List.getElem_mem hlt)
      have hcl := count_le_total hgo.2.nonneg u[i] (List.getElem_mem hlt)
      have hsplit : expand (u.take (i + 1)) = expand (u.take i) ++ List.replicate u[i].count.toNat u[i].text := by
        rw [List.take_add_one, List.getElem?_eq_getElem hlt, Option.toList_some, expand_append]
        simp [expand]
      have hlen : (expand (u.take i)).length + u[i].count.toNat ≤ 900 := by
        have h5 : (expand (u.take (i + 1))).length ≤ (expand u).length := by
          conv => rhs; rw [← List.take_append_drop (i + 1) u]
          rw [expand_append, List.length_append]; omega
        rw [hsplit, List.length_append, List.length_replicate] at h5
        omega
      have hsr := strRows_len (expand (u.take i))
      have hrows : strRows (expand (u.take (i + 1))) = strRows (expand (u.take i)) ++ List.replicate u[i].count.toNat [.str u[i].text] := by
        rw [hsplit]; simp [strRows]
      have hrl : (strRows (expand (u.take (i + 1)))).length = (strRows (expand (u.take i))).length + (List.replicate u[i].count.toNat [V.str u[i].text]).length := by rw [hrows, List.length_append]
      obtain ⟨n, hn⟩ := Int.eq_ofNat_of_zero_le (show 0 ≤ u[i].count by omega)
      have hrep := repeatH_spec u[i].text n (by omega)
      rw [hn, Int.toNat_natCast] at hrows hrl hlen
      have hrow : Count.row u[i] = [.str u[i].text, .int .i64 n] := by unfold Count.row; rw [hn]
      rw [hrow] at hget
      repeat (first | refine W.seq ?_ | (refine W.reg env hN (by kernel_rfl) ?_; conv => whnf) | refine W.condT rfl ?_ | refine W.condF rfl ?_ | (refine W.skip ?_; conv => whnf) | (refine W.exit ?_; conv => whnf) | refine W.block ?_ | (refine fun (hlen : (_ : Nat) ≤ _) => ?_; conv => whnf) | (refine okFp_intro (by kernel_rfl) ?_; conv => whnf) | (refine And.intro rfl ?_; conv => whnf) | (refine And.intro (by omega) ?_; conv => whnf) | (refine rowAt_of rfl ?_; conv => whnf) | (refine boolRes_true (by omega) ?_; conv => whnf) | (refine boolRes_false (by omega) ?_; conv => whnf) | (refine boolRes_true rfl ?_; conv => whnf))
      refine rowAt_of hget ?_
      conv => whnf
      repeat (first | refine W.seq ?_ | (refine W.reg env hN (by kernel_rfl) ?_; conv => whnf) | refine W.condT rfl ?_ | refine W.condF rfl ?_ | (refine W.skip ?_; conv => whnf) | (refine W.exit ?_; conv => whnf) | refine W.block ?_ | (refine fun (hlen : (_ : Nat) ≤ _) => ?_; conv => whnf) | (refine okFp_intro (by kernel_rfl) ?_; conv => whnf) | (refine And.intro rfl ?_; conv => whnf) | (refine And.intro (by omega) ?_; conv => whnf) | (refine rowAt_of rfl ?_; conv => whnf) | (refine boolRes_true (by omega) ?_; conv => whnf) | (refine boolRes_false (by omega) ?_; conv => whnf) | (refine boolRes_true rfl ?_; conv => whnf))
      (refine ⟨_, _, _, callG [(0, 52)] [] [] rfl rfl rfl (by kernel_rfl) (hrep) (by repeat' (first | exact trivial | exact Lent.refl _ | exact Lent.norm _ | apply And.intro)) rfl ⟨rfl, rfl, rfl, rfl, rfl, by repeat' (first | exact trivial | rfl | apply And.intro), rfl, rfl⟩, ?_⟩; conv => whnf)
      repeat (first | refine W.seq ?_ | (refine W.reg env hN (by kernel_rfl) ?_; conv => whnf) | refine W.condT rfl ?_ | refine W.condF rfl ?_ | (refine W.skip ?_; conv => whnf) | (refine W.exit ?_; conv => whnf) | refine W.block ?_ | (refine fun (hlen : (_ : Nat) ≤ _) => ?_; conv => whnf) | (refine okFp_intro (by kernel_rfl) ?_; conv => whnf) | (refine And.intro rfl ?_; conv => whnf) | (refine And.intro (by omega) ?_; conv => whnf) | (refine rowAt_of rfl ?_; conv => whnf) | (refine boolRes_true (by omega) ?_; conv => whnf) | (refine boolRes_false (by omega) ?_; conv => whnf) | (refine boolRes_true rfl ?_; conv => whnf))
      refine ⟨⟨?_, rfl⟩, ⟨?_, ?_⟩, .inl ⟨rfl, rfl, ?_⟩⟩
      · show rowsSz (List.replicate n [V.str u[i].text]) 1
        unfold rowsSz
        intro r hr
        rw [List.eq_of_mem_replicate hr]; rfl
      · show ((strRows (expand (u.take i))).length + (List.replicate n [V.str u[i].text]).length) * 16 ≤ _
        rw [List.length_replicate]; omega
      · show (strRows (expand (u.take i))).length + (List.replicate n [V.str u[i].text]).length ≤ _
        rw [List.length_replicate]; omega
      conv => whnf
      repeat (first | refine W.seq ?_ | (refine W.reg env hN (by kernel_rfl) ?_; conv => whnf) | refine W.condT rfl ?_ | refine W.condF rfl ?_ | (refine W.skip ?_; conv => whnf) | (refine W.exit ?_; conv => whnf) | refine W.block ?_ | (refine fun (hlen : (_ : Nat) ≤ _) => ?_; conv => whnf) | (refine okFp_intro (by kernel_rfl) ?_; conv => whnf) | (refine And.intro rfl ?_; conv => whnf) | (refine And.intro (by omega) ?_; conv => whnf) | (refine rowAt_of rfl ?_; conv => whnf) | (refine boolRes_true (by omega) ?_; conv => whnf) | (refine boolRes_false (by omega) ?_; conv => whnf) | (refine boolRes_true rfl ?_; conv => whnf))
      refine ⟨_, _, ?_, ⟨i + 1, by omega, rfl, rfl⟩, [(5, 5), (60, 60), (63, 63), (64, 64)], [], [], LeG.mk' rfl rfl rfl ⟨⟨_, .refl _, rfl⟩, ⟨_, .refl _, rfl⟩, ⟨_, .refl _, (by
          show V.osl 64 0 0 ((strRows (expand (u.take i))).length + (List.replicate n [V.str u[i].text]).length) ((strRows (expand (u.take i))).length + (List.replicate n [V.str u[i].text]).length) = _
          rw [hrl])⟩, ⟨_, .refl _, rfl⟩, ⟨_, .refl _, rfl⟩, ⟨_, .refl _, rfl⟩, trivial⟩
        (.cons 5 rfl rfl (.refl _) rfl (.cons 60 rfl rfl (.refl _) rfl (.cons 63 rfl rfl (.refl _) rfl (.cons 64 rfl rfl (.refl _) (by
          show _ = [Blk.rows 1 (strRows (expand (u.take i)) ++ List.replicate n [V.str u[i].text]) (some [])]
          rw [hrows]) .nil)))) rfl rfl (by rw [hK]; rfl)⟩
      omega
    · have hie : i = u.length := by omega
      subst hie
      rw [List.take_length]
      refine W.seq ?_
      refine W.condF rfl ?_
      refine W.exit ?_
      conv => whnf
      refine W.leG (mp := [(5, 5), (60, 60)]) (bo := [63, 64]) (st' := ⟨[(5, .bp 5 0), (9, .bp 60 0), (12, .sl (strRows (expand u)) false)], [(5, [.rows 5 [[.int .i64 0, .nils, .nils, .int .i64 0, .int .i64 0]] none]), (60, [x.fin.blk])], [5, 60]⟩)
        (LeG.mk' rfl rfl rfl ⟨⟨_, .refl _, rfl⟩, ⟨_, .refl _, rfl⟩, ⟨_, Lent.whole rfl rfl rfl rfl (.inl rfl), rfl⟩, trivial⟩ (.cons 5 rfl rfl (.refl _) rfl (.cons 60 (b1 := .rows 5 [[.int .i64 x.fin.mem, .sl [] false, .sl (runRows x.fin.runs) false, .int .i64 x.fin.peak, .int .i64 x.fin.written]] none) rfl rfl (.rows _ _ _ (by repeat' (first | exact trivial | exact ⟨Lent.refl _, rfl⟩ | exact ⟨Lent.norm _, rfl⟩ | exact ⟨Lent.whole rfl rfl (by first | rfl | simp) rfl (by first | exact .inl rfl | exact .inr rfl), rfl⟩ | apply And.intro))) (by rw [hnil]; rfl) .nil)) rfl rfl (by rw [hK]; rfl)) ?_
      repeat (first | refine W.seq ?_ | (refine W.reg env hN (by kernel_rfl) ?_; conv => whnf) | refine W.condT rfl ?_ | refine W.condF rfl ?_ | (refine W.skip ?_; conv => whnf) | (refine W.exit ?_; conv => whnf) | refine W.block ?_ | (refine fun (hlen : (_ : Nat) ≤ _) => ?_; conv => whnf) | (refine okFp_intro (by kernel_rfl) ?_; conv => whnf) | (refine And.intro rfl ?_; conv => whnf) | (refine And.intro (by omega) ?_; conv => whnf) | (refine rowAt_of rfl ?_; conv => whnf) | (refine boolRes_true (by omega) ?_; conv => whnf) | (refine boolRes_false (by omega) ?_; conv => whnf) | (refine boolRes_true rfl ?_; conv => whnf))
      (refine ⟨_, _, _, callG [] [(1, 62)] [] rfl rfl rfl (by kernel_rfl) (hfin) (by repeat' (first | exact trivial | exact Lent.refl _ | exact Lent.norm _ | apply And.intro)) rfl ⟨rfl, rfl, rfl, rfl, rfl, by repeat' (first | exact trivial | rfl | apply And.intro), rfl, rfl⟩, ?_⟩; conv => whnf)
      repeat (first | refine W.seq ?_ | (refine W.reg env hN (by kernel_rfl) ?_; conv => whnf) | refine W.condT rfl ?_ | refine W.condF rfl ?_ | (refine W.skip ?_; conv => whnf) | (refine W.exit ?_; conv => whnf) | refine W.block ?_ | (refine fun (hlen : (_ : Nat) ≤ _) => ?_; conv => whnf) | (refine okFp_intro (by kernel_rfl) ?_; conv => whnf) | (refine And.intro rfl ?_; conv => whnf) | (refine And.intro (by omega) ?_; conv => whnf) | (refine rowAt_of rfl ?_; conv => whnf) | (refine boolRes_true (by omega) ?_; conv => whnf) | (refine boolRes_false (by omega) ?_; conv => whnf) | (refine boolRes_true rfl ?_; conv => whnf) | (refine W.ret ?_; conv => whnf))
      exact ret0 rfl rfl rfl
end Go.Sx.Sp
namespace Go.Sx.Sp
open Go Go.Sx Go.Proofs
attribute [local irreducible] GoodW
theorem expand_count : ∀ {u : List Count}, Pos u → ∀ t, ((expand u).count t : Int) = cnt u t
  | [], _, t => by simp [expand, cnt]
  | c :: u, h, t => by
    have h1 := h c (by simp)
    have h2 := expand_count (u := u) (fun x hx => h x (List.mem_cons_of_mem _ hx)) t
    rw [expand, List.count_append, List.count_replicate]
    simp only [cnt]
    by_cases he : c.text = t
    · simp only [he, beq_self_eq_true, if_true]; omega
    · have : (c.text == t) = false := by simpa using he
      simp only [this, he, if_false, Bool.false_eq_true]; omega
theorem expand_mem : ∀ {u : List Count} {t : List UInt8}, t ∈ expand u → ∃ c ∈ u, c.text = t
  | c :: u, t, h => by
    rw [expand, List.mem_append] at h
    rcases h with h | h
    · exact ⟨c, by simp, (List.eq_of_mem_replicate h).symm⟩
    · obtain ⟨d, hd, e⟩ := expand_mem h
      exact ⟨d, List.mem_cons_of_mem _ hd, e⟩
theorem expand_sorted : ∀ {u : List Count}, Sorted u → (expand u).Pairwise fun a b => Op.bytesLess a b = true ∨ a = b
  | [], _ => List.Pairwise.nil
  | c :: u, h => by
    obtain ⟨h1, h2⟩ := List.pairwise_cons.1 h
    rw [expand]
    refine List.pairwise_append.2 ⟨?_, expand_sorted h2, fun a ha b hb => ?_⟩
    · exact List.pairwise_replicate.2 (.inr (.inr rfl))
    · rw [List.eq_of_mem_replicate ha]
      obtain ⟨d, hd, e⟩ := expand_mem hb
      rw [← e]; exact .inl (h1 d hd)
theorem sorts_facts {x : Spill} {l : List (List UInt8)} {m : Int} (hx : Way x l m) :
    (expand x.out).length = l.length ∧ x.fin.peak ≤ x.fin.mem ∧ x.fin.runs.length ≤ 1 ∧ x.fin.buf = [] ∧ (∀ t, (expand x.out).count t = l.count t) ∧ (expand x.out).Pairwise fun a b => Op.bytesLess a b = true ∨ a = b := by
  obtain ⟨sx, px⟩ := out_good hx.good
  refine ⟨?_, hx.good.fin.peak.2, fin_few x, fin_buf x, fun t => ?_, expand_sorted sx⟩
  · have h1 := expand_len px
    rw [out_total hx.good] at h1; omega
  · have h1 := expand_count px t
    rw [out_cnt, hx.cnt] at h1; omega
set_option maxHeartbeats 16000000 in
theorem sorts_spec (s : List Int) (a : Int) (hs : Bytes s) (ha : 0 ≤ a ∧ a ≤ 255) : Spec Try.prog 6 [.sl (intRows .u8 s) false, .int .u8 a] [] (.bool true) [] := by
  have hs3 : Bytes (s.take 300) := fun x hx => hs x (List.mem_of_mem_take hx)
  have htx := texts_spec (s.take 300) 0 30 hs3 (by omega) (by omega)
  have hr := pickV_range hs3 0 (n := ((30 + 1 : Nat) : Int)) (by omega)
  have htl : (texts (s.take 300) 0 30).1.length ≤ 30 := by
    unfold texts
    rw [textsN_len]
    omega
  generalize (texts (s.take 300) 0 30).2 = p1 at *
  generalize (texts (s.take 300) 0 30).1 = l at *
  clear hr
  obtain ⟨m, hm⟩ : ∃ m : Int, m = 2 + a % 20 := ⟨_, rfl⟩
  have hA : a.tmod 20 = a % 20 := Int.tmod_eq_emod_of_nonneg ha.1
  have hsp := sort_spec l m (by omega) (by omega)
  obtain ⟨f1, f2, f3, f4, f5, f6⟩ := sorts_facts (way_pushL (Way.new (m := m) (by omega)) l (by omega))
  generalize pushL (Spill.new m) l = x at *
  generalize expand x.out = X at *
  have hll := strRows_len l
  have hXl := strRows_len X
  have hfr := runRows_len x.fin.runs
  have hfb : (countRows x.fin.buf).length = 0 := by rw [f4]; rfl
  refine Spec.body env Try.func6 rfl (by kernel_rfl) (Nat.le_of_ble_eq_true (by kernel_rfl)) (keysSub rfl) fun Γ hN hK => ?_; have hML : maxLen = 9223372036854775807 := by unfold maxLen; rfl
  repeat (first | refine W.seq ?_ | (refine W.reg env hN (by kernel_rfl) ?_; conv => whnf) | refine W.condT rfl ?_ | refine W.condF rfl ?_ | (refine W.skip ?_; conv => whnf) | (refine W.exit ?_; conv => whnf) | refine W.block ?_ | (refine fun (hlen : (_ : Nat) ≤ _) => ?_; conv => whnf) | (refine okFp_intro (by kernel_rfl) ?_; conv => whnf) | (refine And.intro rfl ?_; conv => whnf) | (refine And.intro (by omega) ?_; conv => whnf) | (refine rowAt_of rfl ?_; conv => whnf) | (refine boolRes_true (by omega) ?_; conv => whnf) | (refine boolRes_false (by omega) ?_; conv => whnf) | (refine boolRes_true rfl ?_; conv => whnf))
  (refine ⟨_, _, _, callG [] [] [] rfl rfl rfl (by kernel_rfl) (sane_spec) (by repeat' (first | exact trivial | exact Lent.refl _ | exact Lent.norm _ | apply And.intro)) rfl ⟨rfl, rfl, rfl, rfl, rfl, by repeat' (first | exact trivial | rfl | apply And.intro), rfl, rfl⟩, ?_⟩; conv => whnf)
  repeat (first | refine W.seq ?_ | (refine W.reg env hN (by kernel_rfl) ?_; conv => whnf) | refine W.condT rfl ?_ | refine W.condF rfl ?_ | (refine W.skip ?_; conv => whnf) | (refine W.exit ?_; conv => whnf) | refine W.block ?_ | (refine fun (hlen : (_ : Nat) ≤ _) => ?_; conv => whnf) | (refine okFp_intro (by kernel_rfl) ?_; conv => whnf) | (refine And.intro rfl ?_; conv => whnf) | (refine And.intro (by omega) ?_; conv => whnf) | (refine rowAt_of rfl ?_; conv => whnf) | (refine boolRes_true (by omega) ?_; conv => whnf) | (refine boolRes_false (by omega) ?_; conv => whnf) | (refine boolRes_true rfl ?_; conv => whnf))
  (refine ⟨_, _, _, callG [] [(10, 29)] [] rfl rfl rfl (by kernel_rfl) (dice_spec s) (by repeat' (first | exact trivial | exact Lent.refl _ | exact Lent.norm _ | apply And.intro)) rfl ⟨rfl, rfl, rfl, rfl, rfl, by repeat' (first | exact trivial | rfl | apply And.intro), rfl, rfl⟩, ?_⟩; conv => whnf)
  repeat (first | refine W.seq ?_ | (refine W.reg env hN (by kernel_rfl) ?_; conv => whnf) | refine W.condT rfl ?_ | refine W.condF rfl ?_ | (refine W.skip ?_; conv => whnf) | (refine W.exit ?_; conv => whnf) | refine W.block ?_ | (refine fun (hlen : (_ : Nat) ≤ _) => ?_; conv => whnf) | (refine okFp_intro (by kernel_rfl) ?_; conv => whnf) | (refine And.intro rfl ?_; conv => whnf) | (refine And.intro (by omega) ?_; conv => whnf) | (refine rowAt_of rfl ?_; conv => whnf) | (refine boolRes_true (by omega) ?_; conv => whnf) | (refine boolRes_false (by omega) ?_; conv => whnf) | (refine boolRes_true rfl ?_; conv => whnf))
  (refine ⟨_, _, _, callG [(0, 29)] [] [] rfl rfl rfl (by kernel_rfl) (htx) (by repeat' (first | exact trivial | exact Lent.refl _ | exact Lent.norm _ | apply And.intro)) rfl ⟨rfl, rfl, rfl, rfl, rfl, by repeat' (first | exact trivial | rfl | apply And.intro), rfl, rfl⟩, ?_⟩; conv => whnf)
  repeat (first | refine W.seq ?_ | (refine W.reg env hN (by kernel_rfl) ?_; conv => whnf) | refine W.condT rfl ?_ | refine W.condF rfl ?_ | (refine W.skip ?_; conv => whnf) | (refine W.exit ?_; conv => whnf) | refine W.block ?_ | (refine fun (hlen : (_ : Nat) ≤ _) => ?_; conv => whnf) | (refine okFp_intro (by kernel_rfl) ?_; conv => whnf) | (refine And.intro rfl ?_; conv => whnf) | (refine And.intro (by omega) ?_; conv => whnf) | (refine rowAt_of rfl ?_; conv => whnf) | (refine boolRes_true (by omega) ?_; conv => whnf) | (refine boolRes_false (by omega) ?_; conv => whnf) | (refine boolRes_true rfl ?_; conv => whnf))
  rw [show 2 + a.tmod 20 = m by omega]
  (refine ⟨_, _, _, callG [] [] [] rfl rfl rfl (by kernel_rfl) (hsp) (by repeat' (first | exact trivial | exact Lent.refl _ | exact Lent.norm _ | apply And.intro)) rfl ⟨rfl, rfl, rfl, rfl, rfl, by repeat' (first | exact trivial | rfl | apply And.intro), rfl, rfl⟩, ?_⟩; conv => whnf)
  repeat (first | refine W.seq ?_ | (refine W.reg env hN (by kernel_rfl) ?_; conv => whnf) | refine W.condT rfl ?_ | refine W.condF rfl ?_ | (refine W.skip ?_; conv => whnf) | (refine W.exit ?_; conv => whnf) | refine W.block ?_ | (refine fun (hlen : (_ : Nat) ≤ _) => ?_; conv => whnf) | (refine okFp_intro (by kernel_rfl) ?_; conv => whnf) | (refine And.intro rfl ?_; conv => whnf) | (refine And.intro (by omega) ?_; conv => whnf) | (refine rowAt_of rfl ?_; conv => whnf) | (refine boolRes_true (by omega) ?_; conv => whnf) | (refine boolRes_false (by omega) ?_; conv => whnf) | (refine boolRes_true rfl ?_; conv => whnf))
  refine W.loopG (fun k st => ∃ i : Nat, i ≤ X.length ∧ k = X.length - i ∧ st = ⟨[(6, .sl (strRows l) false), (7, .sl (strRows X) false), (58, .int .i64 (strRows X).length), (59, .int .i64 i)], [], []⟩)
    X.length _ ⟨0, by omega, rfl, rfl⟩ ⟨[], [], [], LeG.mk' rfl rfl rfl (by repeat' (first | exact trivial | exact ⟨_, .refl _, rfl⟩ | apply And.intro)) .nil rfl rfl (by rw [hK]; rfl)⟩ ?_
  rintro k st ⟨i, hi, rfl, rfl⟩
  repeat (first | refine W.seq ?_ | (refine W.reg env hN (by kernel_rfl) ?_; conv => whnf) | refine W.condT rfl ?_ | refine W.condF rfl ?_ | (refine W.skip ?_; conv => whnf) | (refine W.exit ?_; conv => whnf) | refine W.block ?_ | (refine fun (hlen : (_ : Nat) ≤ _) => ?_; conv => whnf) | (refine okFp_intro (by kernel_rfl) ?_; conv => whnf) | (refine And.intro rfl ?_; conv => whnf) | (refine And.intro (by omega) ?_; conv => whnf) | (refine rowAt_of rfl ?_; conv => whnf) | (refine boolRes_true (by omega) ?_; conv => whnf) | (refine boolRes_false (by omega) ?_; conv => whnf) | (refine boolRes_true rfl ?_; conv => whnf))
  refine boolRes_split (fun hb => ?_) (fun hb => ?_) <;> conv => whnf
  · have hlt : i < X.length := by omega
    have hxi : (strRows X)[i]? = some [.str X[i]] := by simp [strRows, hlt]
    have hcount := f5 X[i]
    rcases i with _ | i
    · have h00 : ((0 : Nat) : Int) = 0 := rfl
      repeat (first | refine W.seq ?_ | (refine W.reg env hN (by kernel_rfl) ?_; conv => whnf) | refine W.condT rfl ?_ | refine W.condF rfl ?_ | (refine W.skip ?_; conv => whnf) | (refine W.exit ?_; conv => whnf) | refine W.block ?_ | (refine fun (hlen : (_ : Nat) ≤ _) => ?_; conv => whnf) | (refine okFp_intro (by kernel_rfl) ?_; conv => whnf) | (refine And.intro rfl ?_; conv => whnf) | (refine And.intro (by omega) ?_; conv => whnf) | (refine rowAt_of rfl ?_; conv => whnf) | (refine boolRes_true (by omega) ?_; conv => whnf) | (refine boolRes_false (by omega) ?_; conv => whnf) | (refine boolRes_true rfl ?_; conv => whnf))
      refine W.loopG (fun k st => ∃ q : Nat, q ≤ l.length ∧ k = l.length - q ∧ st = ⟨[(6, .sl (strRows l) false), (7, .sl (strRows X) false), (58, .int .i64 (strRows X).length), (59, .int .i64 (0 : Nat)), (10, .int .i64 (0 : Nat)), (11, .int .i64 (((l.take q).count X[0] : Nat) - ((X.take q).count X[0] : Nat) : Int)), (77, .int .i64 (strRows l).length), (78, .int .i64 q)], [], []⟩)
        l.length _ ⟨0, by omega, rfl, rfl⟩ ⟨[], [], [], LeG.mk' rfl rfl rfl (by repeat' (first | exact trivial | exact ⟨_, .refl _, rfl⟩ | apply And.intro)) .nil rfl rfl (by rw [hK]; rfl)⟩ ?_
      rintro k st ⟨q, hq, rfl, rfl⟩
      have hle1 := List.count_le_length (a := X[0]) (l := l.take q)
      have hle2 := List.count_le_length (a := X[0]) (l := X.take q)
      rw [List.length_take] at hle1 hle2
      repeat (first | refine W.seq ?_ | (refine W.reg env hN (by kernel_rfl) ?_; conv => whnf) | refine W.condT rfl ?_ | refine W.condF rfl ?_ | (refine W.skip ?_; conv => whnf) | (refine W.exit ?_; conv => whnf) | refine W.block ?_ | (refine fun (hlen : (_ : Nat) ≤ _) => ?_; conv => whnf) | (refine okFp_intro (by kernel_rfl) ?_; conv => whnf) | (refine And.intro rfl ?_; conv => whnf) | (refine And.intro (by omega) ?_; conv => whnf) | (refine rowAt_of rfl ?_; conv => whnf) | (refine boolRes_true (by omega) ?_; conv => whnf) | (refine boolRes_false (by omega) ?_; conv => whnf) | (refine boolRes_true rfl ?_; conv => whnf))
      refine boolRes_split (fun hb => ?_) (fun hb => ?_) <;> conv => whnf
      · have hlt1 : q < l.length := by omega
        have hlt2 : q < X.length := by omega
        have hlq : (strRows l)[q]? = some [.str l[q]] := by simp [strRows, hlt1]
        have hXq : (strRows X)[q]? = some [.str X[q]] := by simp [strRows, hlt2]
        have hn1 : (((l.take (q + 1)).count X[0] : Nat) : Int) = (l.take q).count X[0] + if l[q] = X[0] then 1 else 0 := by
          rw [List.take_add_one, List.getElem?_eq_getElem hlt1, Option.toList_some, count_snoc]
        have hn2 : (((X.take (q + 1)).count X[0] : Nat) : Int) = (X.take q).count X[0] + if X[q] = X[0] then 1 else 0 := by
          rw [List.take_add_one, List.getElem?_eq_getElem hlt2, Option.toList_some, count_snoc]
        repeat (first | refine W.seq ?_ | (refine W.reg env hN (by kernel_rfl) ?_; conv => whnf) | refine W.condT rfl ?_ | refine W.condF rfl ?_ | (refine W.skip ?_; conv => whnf) | (refine W.exit ?_; conv => whnf) | refine W.block ?_ | (refine fun (hlen : (_ : Nat) ≤ _) => ?_; conv => whnf) | (refine okFp_intro (by kernel_rfl) ?_; conv => whnf) | (refine And.intro rfl ?_; conv => whnf) | (refine And.intro (by omega) ?_; conv => whnf) | (refine rowAt_of rfl ?_; conv => whnf) | (refine boolRes_true (by omega) ?_; conv => whnf) | (refine boolRes_false (by omega) ?_; conv => whnf) | (refine boolRes_true rfl ?_; conv => whnf))
        refine rowAt_of hlq ?_
        conv => whnf
        repeat (first | refine W.seq ?_ | (refine W.reg env hN (by kernel_rfl) ?_; conv => whnf) | refine W.condT rfl ?_ | refine W.condF rfl ?_ | (refine W.skip ?_; conv => whnf) | (refine W.exit ?_; conv => whnf) | refine W.block ?_ | (refine fun (hlen : (_ : Nat) ≤ _) => ?_; conv => whnf) | (refine okFp_intro (by kernel_rfl) ?_; conv => whnf) | (refine And.intro rfl ?_; conv => whnf) | (refine And.intro (by omega) ?_; conv => whnf) | (refine rowAt_of rfl ?_; conv => whnf) | (refine boolRes_true (by omega) ?_; conv => whnf) | (refine boolRes_false (by omega) ?_; conv => whnf) | (refine boolRes_true rfl ?_; conv => whnf))
        refine rowAt_of hxi ?_
        conv => whnf
        repeat (first | refine W.seq ?_ | (refine W.reg env hN (by kernel_rfl) ?_; conv => whnf) | refine W.condT rfl ?_ | refine W.condF rfl ?_ | (refine W.skip ?_; conv => whnf) | (refine W.exit ?_; conv => whnf) | refine W.block ?_ | (refine fun (hlen : (_ : Nat) ≤ _) => ?_; conv => whnf) | (refine okFp_intro (by kernel_rfl) ?_; conv => whnf) | (refine And.intro rfl ?_; conv => whnf) | (refine And.intro (by omega) ?_; conv => whnf) | (refine rowAt_of rfl ?_; conv => whnf) | (refine boolRes_true (by omega) ?_; conv => whnf) | (refine boolRes_false (by omega) ?_; conv => whnf) | (refine boolRes_true rfl ?_; conv => whnf))
        by_cases e1 : l[q] = X[0]
        all_goals by_cases e2 : X[q] = X[0]
        all_goals simp only [e1, e2, if_true, if_false] at hn1 hn2
        · refine boolRes_true e1 ?_
          conv => whnf
          repeat (first | refine W.seq ?_ | (refine W.reg env hN (by kernel_rfl) ?_; conv => whnf) | refine W.condT rfl ?_ | refine W.condF rfl ?_ | (refine W.skip ?_; conv => whnf) | (refine W.exit ?_; conv => whnf) | refine W.block ?_ | (refine fun (hlen : (_ : Nat) ≤ _) => ?_; conv => whnf) | (refine okFp_intro (by kernel_rfl) ?_; conv => whnf) | (refine And.intro rfl ?_; conv => whnf) | (refine And.intro (by omega) ?_; conv => whnf) | (refine rowAt_of rfl ?_; conv => whnf) | (refine boolRes_true (by omega) ?_; conv => whnf) | (refine boolRes_false (by omega) ?_; conv => whnf) | (refine boolRes_true rfl ?_; conv => whnf))
          refine rowAt_of hXq ?_
          conv => whnf
          repeat (first | refine W.seq ?_ | (refine W.reg env hN (by kernel_rfl) ?_; conv => whnf) | refine W.condT rfl ?_ | refine W.condF rfl ?_ | (refine W.skip ?_; conv => whnf) | (refine W.exit ?_; conv => whnf) | refine W.block ?_ | (refine fun (hlen : (_ : Nat) ≤ _) => ?_; conv => whnf) | (refine okFp_intro (by kernel_rfl) ?_; conv => whnf) | (refine And.intro rfl ?_; conv => whnf) | (refine And.intro (by omega) ?_; conv => whnf) | (refine rowAt_of rfl ?_; conv => whnf) | (refine boolRes_true (by omega) ?_; conv => whnf) | (refine boolRes_false (by omega) ?_; conv => whnf) | (refine boolRes_true rfl ?_; conv => whnf))
          refine rowAt_of hxi ?_
          conv => whnf
          repeat (first | refine W.seq ?_ | (refine W.reg env hN (by kernel_rfl) ?_; conv => whnf) | refine W.condT rfl ?_ | refine W.condF rfl ?_ | (refine W.skip ?_; conv => whnf) | (refine W.exit ?_; conv => whnf) | refine W.block ?_ | (refine fun (hlen : (_ : Nat) ≤ _) => ?_; conv => whnf) | (refine okFp_intro (by kernel_rfl) ?_; conv => whnf) | (refine And.intro rfl ?_; conv => whnf) | (refine And.intro (by omega) ?_; conv => whnf) | (refine rowAt_of rfl ?_; conv => whnf) | (refine boolRes_true (by omega) ?_; conv => whnf) | (refine boolRes_false (by omega) ?_; conv => whnf) | (refine boolRes_true rfl ?_; conv => whnf))
          refine ⟨_, _, ?_, ⟨q + 1, by omega, rfl, rfl⟩, [], [], [], LeG.mk' rfl rfl rfl (by rw [show (((l.take (q + 1)).count X[0] : Nat) : Int) - (((X.take (q + 1)).count X[0] : Nat) : Int) = (((l.take q).count X[0] : Nat) : Int) - (((X.take q).count X[0] : Nat) : Int) + (1 : Int) - (1 : Int) by omega]; repeat' (first | exact trivial | exact ⟨_, .refl _, rfl⟩ | apply And.intro)) .nil rfl rfl (by rw [hK]; rfl)⟩
          omega
        · refine boolRes_true e1 ?_
          conv => whnf
          repeat (first | refine W.seq ?_ | (refine W.reg env hN (by kernel_rfl) ?_; conv => whnf) | refine W.condT rfl ?_ | refine W.condF rfl ?_ | (refine W.skip ?_; conv => whnf) | (refine W.exit ?_; conv => whnf) | refine W.block ?_ | (refine fun (hlen : (_ : Nat) ≤ _) => ?_; conv => whnf) | (refine okFp_intro (by kernel_rfl) ?_; conv => whnf) | (refine And.intro rfl ?_; conv => whnf) | (refine And.intro (by omega) ?_; conv => whnf) | (refine rowAt_of rfl ?_; conv => whnf) | (refine boolRes_true (by omega) ?_; conv => whnf) | (refine boolRes_false (by omega) ?_; conv => whnf) | (refine boolRes_true rfl ?_; conv => whnf))
          refine rowAt_of hXq ?_
          conv => whnf
          repeat (first | refine W.seq ?_ | (refine W.reg env hN (by kernel_rfl) ?_; conv => whnf) | refine W.condT rfl ?_ | refine W.condF rfl ?_ | (refine W.skip ?_; conv => whnf) | (refine W.exit ?_; conv => whnf) | refine W.block ?_ | (refine fun (hlen : (_ : Nat) ≤ _) => ?_; conv => whnf) | (refine okFp_intro (by kernel_rfl) ?_; conv => whnf) | (refine And.intro rfl ?_; conv => whnf) | (refine And.intro (by omega) ?_; conv => whnf) | (refine rowAt_of rfl ?_; conv => whnf) | (refine boolRes_true (by omega) ?_; conv => whnf) | (refine boolRes_false (by omega) ?_; conv => whnf) | (refine boolRes_true rfl ?_; conv => whnf))
          refine rowAt_of hxi ?_
          conv => whnf
          repeat (first | refine W.seq ?_ | (refine W.reg env hN (by kernel_rfl) ?_; conv => whnf) | refine W.condT rfl ?_ | refine W.condF rfl ?_ | (refine W.skip ?_; conv => whnf) | (refine W.exit ?_; conv => whnf) | refine W.block ?_ | (refine fun (hlen : (_ : Nat) ≤ _) => ?_; conv => whnf) | (refine okFp_intro (by kernel_rfl) ?_; conv => whnf) | (refine And.intro rfl ?_; conv => whnf) | (refine And.intro (by omega) ?_; conv => whnf) | (refine rowAt_of rfl ?_; conv => whnf) | (refine boolRes_true (by omega) ?_; conv => whnf) | (refine boolRes_false (by omega) ?_; conv => whnf) | (refine boolRes_true rfl ?_; conv => whnf))
          refine ⟨_, _, ?_, ⟨q + 1, by omega, rfl, rfl⟩, [], [], [], LeG.mk' rfl rfl rfl (by rw [show (((l.take (q + 1)).count X[0] : Nat) : Int) - (((X.take (q + 1)).count X[0] : Nat) : Int) = (((l.take q).count X[0] : Nat) : Int) - (((X.take q).count X[0] : Nat) : Int) + (1 : Int) by omega]; repeat' (first | exact trivial | exact ⟨_, .refl _, rfl⟩ | apply And.intro)) .nil rfl rfl (by rw [hK]; rfl)⟩
          omega
        · refine boolRes_false e1 ?_
          conv => whnf
          repeat (first | refine W.seq ?_ | (refine W.reg env hN (by kernel_rfl) ?_; conv => whnf) | refine W.condT rfl ?_ | refine W.condF rfl ?_ | (refine W.skip ?_; conv => whnf) | (refine W.exit ?_; conv => whnf) | refine W.block ?_ | (refine fun (hlen : (_ : Nat) ≤ _) => ?_; conv => whnf) | (refine okFp_intro (by kernel_rfl) ?_; conv => whnf) | (refine And.intro rfl ?_; conv => whnf) | (refine And.intro (by omega) ?_; conv => whnf) | (refine rowAt_of rfl ?_; conv => whnf) | (refine boolRes_true (by omega) ?_; conv => whnf) | (refine boolRes_false (by omega) ?_; conv => whnf) | (refine boolRes_true rfl ?_; conv => whnf))
          refine rowAt_of hXq ?_
          conv => whnf
          repeat (first | refine W.seq ?_ | (refine W.reg env hN (by kernel_rfl) ?_; conv => whnf) | refine W.condT rfl ?_ | refine W.condF rfl ?_ | (refine W.skip ?_; conv => whnf) | (refine W.exit ?_; conv => whnf) | refine W.block ?_ | (refine fun (hlen : (_ : Nat) ≤ _) => ?_; conv => whnf) | (refine okFp_intro (by kernel_rfl) ?_; conv => whnf) | (refine And.intro rfl ?_; conv => whnf) | (refine And.intro (by omega) ?_; conv => whnf) | (refine rowAt_of rfl ?_; conv => whnf) | (refine boolRes_true (by omega) ?_; conv => whnf) | (refine boolRes_false (by omega) ?_; conv => whnf) | (refine boolRes_true rfl ?_; conv => whnf))
          refine rowAt_of hxi ?_
          conv => whnf
          repeat (first | refine W.seq ?_ | (refine W.reg env hN (by kernel_rfl) ?_; conv => whnf) | refine W.condT rfl ?_ | refine W.condF rfl ?_ | (refine W.skip ?_; conv => whnf) | (refine W.exit ?_; conv => whnf) | refine W.block ?_ | (refine fun (hlen : (_ : Nat) ≤ _) => ?_; conv => whnf) | (refine okFp_intro (by kernel_rfl) ?_; conv => whnf) | (refine And.intro rfl ?_; conv => whnf) | (refine And.intro (by omega) ?_; conv => whnf) | (refine rowAt_of rfl ?_; conv => whnf) | (refine boolRes_true (by omega) ?_; conv => whnf) | (refine boolRes_false (by omega) ?_; conv => whnf) | (refine boolRes_true rfl ?_; conv => whnf))
          refine ⟨_, _, ?_, ⟨q + 1, by omega, rfl, rfl⟩, [], [], [], LeG.mk' rfl rfl rfl (by rw [show (((l.take (q + 1)).count X[0] : Nat) : Int) - (((X.take (q + 1)).count X[0] : Nat) : Int) = (((l.take q).count X[0] : Nat) : Int) - (((X.take q).count X[0] : Nat) : Int) - (1 : Int) by omega]; repeat' (first | exact trivial | exact ⟨_, .refl _, rfl⟩ | apply And.intro)) .nil rfl rfl (by rw [hK]; rfl)⟩
          omega
        · refine boolRes_false e1 ?_
          conv => whnf
          repeat (first | refine W.seq ?_ | (refine W.reg env hN (by kernel_rfl) ?_; conv => whnf) | refine W.condT rfl ?_ | refine W.condF rfl ?_ | (refine W.skip ?_; conv => whnf) | (refine W.exit ?_; conv => whnf) | refine W.block ?_ | (refine fun (hlen : (_ : Nat) ≤ _) => ?_; conv => whnf) | (refine okFp_intro (by kernel_rfl) ?_; conv => whnf) | (refine And.intro rfl ?_; conv => whnf) | (refine And.intro (by omega) ?_; conv => whnf) | (refine rowAt_of rfl ?_; conv => whnf) | (refine boolRes_true (by omega) ?_; conv => whnf) | (refine boolRes_false (by omega) ?_; conv => whnf) | (refine boolRes_true rfl ?_; conv => whnf))
          refine rowAt_of hXq ?_
          conv => whnf
          repeat (first | refine W.seq ?_ | (refine W.reg env hN (by kernel_rfl) ?_; conv => whnf) | refine W.condT rfl ?_ | refine W.condF rfl ?_ | (refine W.skip ?_; conv => whnf) | (refine W.exit ?_; conv => whnf) | refine W.block ?_ | (refine fun (hlen : (_ : Nat) ≤ _) => ?_; conv => whnf) | (refine okFp_intro (by kernel_rfl) ?_; conv => whnf) | (refine And.intro rfl ?_; conv => whnf) | (refine And.intro (by omega) ?_; conv => whnf) | (refine rowAt_of rfl ?_; conv => whnf) | (refine boolRes_true (by omega) ?_; conv => whnf) | (refine boolRes_false (by omega) ?_; conv => whnf) | (refine boolRes_true rfl ?_; conv => whnf))
          refine rowAt_of hxi ?_
          conv => whnf
          repeat (first | refine W.seq ?_ | (refine W.reg env hN (by kernel_rfl) ?_; conv => whnf) | refine W.condT rfl ?_ | refine W.condF rfl ?_ | (refine W.skip ?_; conv => whnf) | (refine W.exit ?_; conv => whnf) | refine W.block ?_ | (refine fun (hlen : (_ : Nat) ≤ _) => ?_; conv => whnf) | (refine okFp_intro (by kernel_rfl) ?_; conv => whnf) | (refine And.intro rfl ?_; conv => whnf) | (refine And.intro (by omega) ?_; conv => whnf) | (refine rowAt_of rfl ?_; conv => whnf) | (refine boolRes_true (by omega) ?_; conv => whnf) | (refine boolRes_false (by omega) ?_; conv => whnf) | (refine boolRes_true rfl ?_; conv => whnf))
          refine ⟨_, _, ?_, ⟨q + 1, by omega, rfl, rfl⟩, [], [], [], LeG.mk' rfl rfl rfl (by rw [show (((l.take (q + 1)).count X[0] : Nat) : Int) - (((X.take (q + 1)).count X[0] : Nat) : Int) = (((l.take q).count X[0] : Nat) : Int) - (((X.take q).count X[0] : Nat) : Int) by omega]; repeat' (first | exact trivial | exact ⟨_, .refl _, rfl⟩ | apply And.intro)) .nil rfl rfl (by rw [hK]; rfl)⟩
          omega
      · have hqe : q = l.length := by omega
        subst hqe
        have hz : (((l.take l.length).count X[0] : Nat) - ((X.take l.length).count X[0] : Nat) : Int) = 0 := by
          rw [List.take_length, List.take_of_length_le (by omega), hcount]; omega
        rw [hz]
        repeat (first | refine W.seq ?_ | (refine W.reg env hN (by kernel_rfl) ?_; conv => whnf) | refine W.condT rfl ?_ | refine W.condF rfl ?_ | (refine W.skip ?_; conv => whnf) | (refine W.exit ?_; conv => whnf) | refine W.block ?_ | (refine fun (hlen : (_ : Nat) ≤ _) => ?_; conv => whnf) | (refine okFp_intro (by kernel_rfl) ?_; conv => whnf) | (refine And.intro rfl ?_; conv => whnf) | (refine And.intro (by omega) ?_; conv => whnf) | (refine rowAt_of rfl ?_; conv => whnf) | (refine boolRes_true (by omega) ?_; conv => whnf) | (refine boolRes_false (by omega) ?_; conv => whnf) | (refine boolRes_true rfl ?_; conv => whnf))
        refine ⟨_, _, ?_, ⟨0 + 1, by omega, rfl, rfl⟩, ⟨[], [], [], LeG.mk' rfl rfl rfl (by repeat' (first | exact trivial | exact ⟨_, .refl _, rfl⟩ | apply And.intro)) .nil rfl rfl (by rw [hK]; rfl)⟩⟩
        omega
    · have hlt' : i < X.length := by omega
      have hxp : (strRows X)[(((i + 1 : Nat) : Int) - (1 : Nat)).toNat]? = some [.str X[i]] := by
        rw [show (((i + 1 : Nat) : Int) - (1 : Nat)).toNat = i by omega]; simp [strRows, hlt']
      have hord := List.pairwise_iff_getElem.1 f6 i (i + 1) hlt' hlt (by omega)
      have hng : ¬ (Op.bytesLess X[i] X[i + 1] = false ∧ X[i] ≠ X[i + 1]) := by
        rintro ⟨h1, h2⟩
        rcases hord with h | h
        · rw [h] at h1; cases h1
        · exact h2 h
      repeat (first | refine W.seq ?_ | (refine W.reg env hN (by kernel_rfl) ?_; conv => whnf) | refine W.condT rfl ?_ | refine W.condF rfl ?_ | (refine W.skip ?_; conv => whnf) | (refine W.exit ?_; conv => whnf) | refine W.block ?_ | (refine fun (hlen : (_ : Nat) ≤ _) => ?_; conv => whnf) | (refine okFp_intro (by kernel_rfl) ?_; conv => whnf) | (refine And.intro rfl ?_; conv => whnf) | (refine And.intro (by omega) ?_; conv => whnf) | (refine rowAt_of rfl ?_; conv => whnf) | (refine boolRes_true (by omega) ?_; conv => whnf) | (refine boolRes_false (by omega) ?_; conv => whnf) | (refine boolRes_true rfl ?_; conv => whnf))
      refine rowAt_of hxp ?_
      conv => whnf
      repeat (first | refine W.seq ?_ | (refine W.reg env hN (by kernel_rfl) ?_; conv => whnf) | refine W.condT rfl ?_ | refine W.condF rfl ?_ | (refine W.skip ?_; conv => whnf) | (refine W.exit ?_; conv => whnf) | refine W.block ?_ | (refine fun (hlen : (_ : Nat) ≤ _) => ?_; conv => whnf) | (refine okFp_intro (by kernel_rfl) ?_; conv => whnf) | (refine And.intro rfl ?_; conv => whnf) | (refine And.intro (by omega) ?_; conv => whnf) | (refine rowAt_of rfl ?_; conv => whnf) | (refine boolRes_true (by omega) ?_; conv => whnf) | (refine boolRes_false (by omega) ?_; conv => whnf) | (refine boolRes_true rfl ?_; conv => whnf))
      refine rowAt_of hxi ?_
      conv => whnf
      repeat (first | refine W.seq ?_ | (refine W.reg env hN (by kernel_rfl) ?_; conv => whnf) | refine W.condT rfl ?_ | refine W.condF rfl ?_ | (refine W.skip ?_; conv => whnf) | (refine W.exit ?_; conv => whnf) | refine W.block ?_ | (refine fun (hlen : (_ : Nat) ≤ _) => ?_; conv => whnf) | (refine okFp_intro (by kernel_rfl) ?_; conv => whnf) | (refine And.intro rfl ?_; conv => whnf) | (refine And.intro (by omega) ?_; conv => whnf) | (refine rowAt_of rfl ?_; conv => whnf) | (refine boolRes_true (by omega) ?_; conv => whnf) | (refine boolRes_false (by omega) ?_; conv => whnf) | (refine boolRes_true rfl ?_; conv => whnf))
      refine W.loopG (fun k st => ∃ q : Nat, q ≤ l.length ∧ k = l.length - q ∧ st = ⟨[(6, .sl (strRows l) false), (7, .sl (strRows X) false), (58, .int .i64 (strRows X).length), (59, .int .i64 ((i + 1) : Nat)), (10, .int .i64 ((i + 1) : Nat)), (11, .int .i64 (((l.take q).count X[(i + 1)] : Nat) - ((X.take q).count X[(i + 1)] : Nat) : Int)), (77, .int .i64 (strRows l).length), (78, .int .i64 q)], [], []⟩)
        l.length _ ⟨0, by omega, rfl, rfl⟩ ⟨[], [], [], LeG.mk' rfl rfl rfl (by repeat' (first | exact trivial | exact ⟨_, .refl _, rfl⟩ | apply And.intro)) .nil rfl rfl (by rw [hK]; rfl)⟩ ?_
      rintro k st ⟨q, hq, rfl, rfl⟩
      have hle1 := List.count_le_length (a := X[(i + 1)]) (l := l.take q)
      have hle2 := List.count_le_length (a := X[(i + 1)]) (l := X.take q)
      rw [List.length_take] at hle1 hle2
      repeat (first | refine W.seq ?_ | (refine W.reg env hN (by kernel_rfl) ?_; conv => whnf) | refine W.condT rfl ?_ | refine W.condF rfl ?_ | (refine W.skip ?_; conv => whnf) | (refine W.exit ?_; conv => whnf) | refine W.block ?_ | (refine fun (hlen : (_ : Nat) ≤ _) => ?_; conv => whnf) | (refine okFp_intro (by kernel_rfl) ?_; conv => whnf) | (refine And.intro rfl ?_; conv => whnf) | (refine And.intro (by omega) ?_; conv => whnf) | (refine rowAt_of rfl ?_; conv => whnf) | (refine boolRes_true (by omega) ?_; conv => whnf) | (refine boolRes_false (by omega) ?_; conv => whnf) | (refine boolRes_true rfl ?_; conv => whnf))
      refine boolRes_split (fun hb => ?_) (fun hb => ?_) <;> conv => whnf
      · have hlt1 : q < l.length := by omega
        have hlt2 : q < X.length := by omega
        have hlq : (strRows l)[q]? = some [.str l[q]] := by simp [strRows, hlt1]
        have hXq : (strRows X)[q]? = some [.str X[q]] := by simp [strRows, hlt2]
        have hn1 : (((l.take (q + 1)).count X[(i + 1)] : Nat) : Int) = (l.take q).count X[(i + 1)] + if l[q] = X[(i + 1)] then 1 else 0 := by
          rw [List.take_add_one, List.getElem?_eq_getElem hlt1, Option.toList_some, count_snoc]
        have hn2 : (((X.take (q + 1)).count X[(i + 1)] : Nat) : Int) = (X.take q).count X[(i + 1)] + if X[q] = X[(i + 1)] then 1 else 0 := by
          rw [List.take_add_one, List.getElem?_eq_getElem hlt2, Option.toList_some, count_snoc]
        repeat (first | refine W.seq ?_ | (refine W.reg env hN (by kernel_rfl) ?_; conv => whnf) | refine W.condT rfl ?_ | refine W.condF rfl ?_ | (refine W.skip ?_; conv => whnf) | (refine W.exit ?_; conv => whnf) | refine W.block ?_ | (refine fun (hlen : (_ : Nat) ≤ _) => ?_; conv => whnf) | (refine okFp_intro (by kernel_rfl) ?_; conv => whnf) | (refine And.intro rfl ?_; conv => whnf) | (refine And.intro (by omega) ?_; conv => whnf) | (refine rowAt_of rfl ?_; conv => whnf) | (refine boolRes_true (by omega) ?_; conv => whnf) | (refine boolRes_false (by omega) ?_; conv => whnf) | (refine boolRes_true rfl ?_; conv => whnf))
        refine rowAt_of hlq ?_
        conv => whnf
        repeat (first | refine W.seq ?_ | (refine W.reg env hN (by kernel_rfl) ?_; conv => whnf) | refine W.condT rfl ?_ | refine W.condF rfl ?_ | (refine W.skip ?_; conv => whnf) | (refine W.exit ?_; conv => whnf) | refine W.block ?_ | (refine fun (hlen : (_ : Nat) ≤ _) => ?_; conv => whnf) | (refine okFp_intro (by kernel_rfl) ?_; conv => whnf) | (refine And.intro rfl ?_; conv => whnf) | (refine And.intro (by omega) ?_; conv => whnf) | (refine rowAt_of rfl ?_; conv => whnf) | (refine boolRes_true (by omega) ?_; conv => whnf) | (refine boolRes_false (by omega) ?_; conv => whnf) | (refine boolRes_true rfl ?_; conv => whnf))
        refine rowAt_of hxi ?_
        conv => whnf
        repeat (first | refine W.seq ?_ | (refine W.reg env hN (by kernel_rfl) ?_; conv => whnf) | refine W.condT rfl ?_ | refine W.condF rfl ?_ | (refine W.skip ?_; conv => whnf) | (refine W.exit ?_; conv => whnf) | refine W.block ?_ | (refine fun (hlen : (_ : Nat) ≤ _) => ?_; conv => whnf) | (refine okFp_intro (by kernel_rfl) ?_; conv => whnf) | (refine And.intro rfl ?_; conv => whnf) | (refine And.intro (by omega) ?_; conv => whnf) | (refine rowAt_of rfl ?_; conv => whnf) | (refine boolRes_true (by omega) ?_; conv => whnf) | (refine boolRes_false (by omega) ?_; conv => whnf) | (refine boolRes_true rfl ?_; conv => whnf))
        by_cases e1 : l[q] = X[(i + 1)]
        all_goals by_cases e2 : X[q] = X[(i + 1)]
        all_goals simp only [e1, e2, if_true, if_false] at hn1 hn2
        · refine boolRes_true e1 ?_
          conv => whnf
          repeat (first | refine W.seq ?_ | (refine W.reg env hN (by kernel_rfl) ?_; conv => whnf) | refine W.condT rfl ?_ | refine W.condF rfl ?_ | (refine W.skip ?_; conv => whnf) | (refine W.exit ?_; conv => whnf) | refine W.block ?_ | (refine fun (hlen : (_ : Nat) ≤ _) => ?_; conv => whnf) | (refine okFp_intro (by kernel_rfl) ?_; conv => whnf) | (refine And.intro rfl ?_; conv => whnf) | (refine And.intro (by omega) ?_; conv => whnf) | (refine rowAt_of rfl ?_; conv => whnf) | (refine boolRes_true (by omega) ?_; conv => whnf) | (refine boolRes_false (by omega) ?_; conv => whnf) | (refine boolRes_true rfl ?_; conv => whnf))
          refine rowAt_of hXq ?_
          conv => whnf
          repeat (first | refine W.seq ?_ | (refine W.reg env hN (by kernel_rfl) ?_; conv => whnf) | refine W.condT rfl ?_ | refine W.condF rfl ?_ | (refine W.skip ?_; conv => whnf) | (refine W.exit ?_; conv => whnf) | refine W.block ?_ | (refine fun (hlen : (_ : Nat) ≤ _) => ?_; conv => whnf) | (refine okFp_intro (by kernel_rfl) ?_; conv => whnf) | (refine And.intro rfl ?_; conv => whnf) | (refine And.intro (by omega) ?_; conv => whnf) | (refine rowAt_of rfl ?_; conv => whnf) | (refine boolRes_true (by omega) ?_; conv => whnf) | (refine boolRes_false (by omega) ?_; conv => whnf) | (refine boolRes_true rfl ?_; conv => whnf))
          refine rowAt_of hxi ?_
          conv => whnf
          repeat (first | refine W.seq ?_ | (refine W.reg env hN (by kernel_rfl) ?_; conv => whnf) | refine W.condT rfl ?_ | refine W.condF rfl ?_ | (refine W.skip ?_; conv => whnf) | (refine W.exit ?_; conv => whnf) | refine W.block ?_ | (refine fun (hlen : (_ : Nat) ≤ _) => ?_; conv => whnf) | (refine okFp_intro (by kernel_rfl) ?_; conv => whnf) | (refine And.intro rfl ?_; conv => whnf) | (refine And.intro (by omega) ?_; conv => whnf) | (refine rowAt_of rfl ?_; conv => whnf) | (refine boolRes_true (by omega) ?_; conv => whnf) | (refine boolRes_false (by omega) ?_; conv => whnf) | (refine boolRes_true rfl ?_; conv => whnf))
          refine ⟨_, _, ?_, ⟨q + 1, by omega, rfl, rfl⟩, [], [], [], LeG.mk' rfl rfl rfl (by rw [show (((l.take (q + 1)).count X[(i + 1)] : Nat) : Int) - (((X.take (q + 1)).count X[(i + 1)] : Nat) : Int) = (((l.take q).count X[(i + 1)] : Nat) : Int) - (((X.take q).count X[(i + 1)] : Nat) : Int) + (1 : Int) - (1 : Int) by omega]; repeat' (first | exact trivial | exact ⟨_, .refl _, rfl⟩ | apply And.intro)) .nil rfl rfl (by rw [hK]; rfl)⟩
          omega
        · refine boolRes_true e1 ?_
          conv => whnf
          repeat (first | refine W.seq ?_ | (refine W.reg env hN (by kernel_rfl) ?_; conv => whnf) | refine W.condT rfl ?_ | refine W.condF rfl ?_ | (refine W.skip ?_; conv => whnf) | (refine W.exit ?_; conv => whnf) | refine W.block ?_ | (refine fun (hlen : (_ : Nat) ≤ _) => ?_; conv => whnf) | (refine okFp_intro (by kernel_rfl) ?_; conv => whnf) | (refine And.intro rfl ?_; conv => whnf) | (refine And.intro (by omega) ?_; conv => whnf) | (refine rowAt_of rfl ?_; conv => whnf) | (refine boolRes_true (by omega) ?_; conv => whnf) | (refine boolRes_false (by omega) ?_; conv => whnf) | (refine boolRes_true rfl ?_; conv => whnf))
          refine rowAt_of hXq ?_
          conv => whnf
          repeat (first | refine W.seq ?_ | (refine W.reg env hN (by kernel_rfl) ?_; conv => whnf) | refine W.condT rfl ?_ | refine W.condF rfl ?_ | (refine W.skip ?_; conv => whnf) | (refine W.exit ?_; conv => whnf) | refine W.block ?_ | (refine fun (hlen : (_ : Nat) ≤ _) => ?_; conv => whnf) | (refine okFp_intro (by kernel_rfl) ?_; conv => whnf) | (refine And.intro rfl ?_; conv => whnf) | (refine And.intro (by omega) ?_; conv => whnf) | (refine rowAt_of rfl ?_; conv => whnf) | (refine boolRes_true (by omega) ?_; conv => whnf) | (refine boolRes_false (by omega) ?_; conv => whnf) | (refine boolRes_true rfl ?_; conv => whnf))
          refine rowAt_of hxi ?_
          conv => whnf
          repeat (first | refine W.seq ?_ | (refine W.reg env hN (by kernel_rfl) ?_; conv => whnf) | refine W.condT rfl ?_ | refine W.condF rfl ?_ | (refine W.skip ?_; conv => whnf) | (refine W.exit ?_; conv => whnf) | refine W.block ?_ | (refine fun (hlen : (_ : Nat) ≤ _) => ?_; conv => whnf) | (refine okFp_intro (by kernel_rfl) ?_; conv => whnf) | (refine And.intro rfl ?_; conv => whnf) | (refine And.intro (by omega) ?_; conv => whnf) | (refine rowAt_of rfl ?_; conv => whnf) | (refine boolRes_true (by omega) ?_; conv => whnf) | (refine boolRes_false (by omega) ?_; conv => whnf) | (refine boolRes_true rfl ?_; conv => whnf))
          refine ⟨_, _, ?_, ⟨q + 1, by omega, rfl, rfl⟩, [], [], [], LeG.mk' rfl rfl rfl (by rw [show (((l.take (q + 1)).count X[(i + 1)] : Nat) : Int) - (((X.take (q + 1)).count X[(i + 1)] : Nat) : Int) = (((l.take q).count X[(i + 1)] : Nat) : Int) - (((X.take q).count X[(i + 1)] : Nat) : Int) + (1 : Int) by omega]; repeat' (first | exact trivial | exact ⟨_, .refl _, rfl⟩ | apply And.intro)) .nil rfl rfl (by rw [hK]; rfl)⟩
          omega
        · refine boolRes_false e1 ?_
          conv => whnf
          repeat (first | refine W.seq ?_ | (refine W.reg env hN (by kernel_rfl) ?_; conv => whnf) | refine W.condT rfl ?_ | refine W.condF rfl ?_ | (refine W.skip ?_; conv => whnf) | (refine W.exit ?_; conv => whnf) | refine W.block ?_ | (refine fun (hlen : (_ : Nat) ≤ _) => ?_; conv => whnf) | (refine okFp_intro (by kernel_rfl) ?_; conv => whnf) | (refine And.intro rfl ?_; conv => whnf) | (refine And.intro (by omega) ?_; conv => whnf) | (refine rowAt_of rfl ?_; conv => whnf) | (refine boolRes_true (by omega) ?_; conv => whnf) | (refine boolRes_false (by omega) ?_; conv => whnf) | (refine boolRes_true rfl ?_; conv => whnf))
          refine rowAt_of hXq ?_
          conv => whnf
          repeat (first | refine W.seq ?_ | (refine W.reg env hN (by kernel_rfl) ?_; conv => whnf) | refine W.condT rfl ?_ | refine W.condF rfl ?_ | (refine W.skip ?_; conv => whnf) | (refine W.exit ?_; conv => whnf) | refine W.block ?_ | (refine fun (hlen : (_ : Nat) ≤ _) => ?_; conv => whnf) | (refine okFp_intro (by kernel_rfl) ?_; conv => whnf) | (refine And.intro rfl ?_; conv => whnf) | (refine And.intro (by omega) ?_; conv => whnf) | (refine rowAt_of rfl ?_; conv => whnf) | (refine boolRes_true (by omega) ?_; conv => whnf) | (refine boolRes_false (by omega) ?_; conv => whnf) | (refine boolRes_true rfl ?_; conv => whnf))
          refine rowAt_of hxi ?_
          conv => whnf
          repeat (first | refine W.seq ?_ | (refine W.reg env hN (by kernel_rfl) ?_; conv => whnf) | refine W.condT rfl ?_ | refine W.condF rfl ?_ | (refine W.skip ?_; conv => whnf) | (refine W.exit ?_; conv => whnf) | refine W.block ?_ | (refine fun (hlen : (_ : Nat) ≤ _) => ?_; conv => whnf) | (refine okFp_intro (by kernel_rfl) ?_; conv => whnf) | (refine And.intro rfl ?_; conv => whnf) | (refine And.intro (by omega) ?_; conv => whnf) | (refine rowAt_of rfl ?_; conv => whnf) | (refine boolRes_true (by omega) ?_; conv => whnf) | (refine boolRes_false (by omega) ?_; conv => whnf) | (refine boolRes_true rfl ?_; conv => whnf))
          refine ⟨_, _, ?_, ⟨q + 1, by omega, rfl, rfl⟩, [], [], [], LeG.mk' rfl rfl rfl (by rw [show (((l.take (q + 1)).count X[(i + 1)] : Nat) : Int) - (((X.take (q + 1)).count X[(i + 1)] : Nat) : Int) = (((l.take q).count X[(i + 1)] : Nat) : Int) - (((X.take q).count X[(i + 1)] : Nat) : Int) - (1 : Int) by omega]; repeat' (first | exact trivial | exact ⟨_, .refl _, rfl⟩ | apply And.intro)) .nil rfl rfl (by rw [hK]; rfl)⟩
          omega
        · refine boolRes_false e1 ?_
          conv => whnf
          repeat (first | refine W.seq ?_ | (refine W.reg env hN (by kernel_rfl) ?_; conv => whnf) | refine W.condT rfl ?_ | refine W.condF rfl ?_ | (refine W.skip ?_; conv => whnf) | (refine W.exit ?_; conv => whnf) | refine W.block ?_ | (refine fun (hlen : (_ : Nat) ≤ _) => ?_; conv => whnf) | (refine okFp_intro (by kernel_rfl) ?_; conv => whnf) | (refine And.intro rfl ?_; conv => whnf) | (refine And.intro (by omega) ?_; conv => whnf) | (refine rowAt_of rfl ?_; conv => whnf) | (refine boolRes_true (by omega) ?_; conv => whnf) | (refine boolRes_false (by omega) ?_; conv => whnf) | (refine boolRes_true rfl ?_; conv => whnf))
          refine rowAt_of hXq ?_
          conv => whnf
          repeat (first | refine W.seq ?_ | (refine W.reg env hN (by kernel_rfl) ?_; conv => whnf) | refine W.condT rfl ?_ | refine W.condF rfl ?_ | (refine W.skip ?_; conv => whnf) | (refine W.exit ?_; conv => whnf) | refine W.block ?_ | (refine fun (hlen : (_ : Nat) ≤ _) => ?_; conv => whnf) | (refine okFp_intro (by kernel_rfl) ?_; conv => whnf) | (refine And.intro rfl ?_; conv => whnf) | (refine And.intro (by omega) ?_; conv => whnf) | (refine rowAt_of rfl ?_; conv => whnf) | (refine boolRes_true (by omega) ?_; conv => whnf) | (refine boolRes_false (by omega) ?_; conv => whnf) | (refine boolRes_true rfl ?_; conv => whnf))
          refine rowAt_of hxi ?_
          conv => whnf
          repeat (first | refine W.seq ?_ | (refine W.reg env hN (by kernel_rfl) ?_; conv => whnf) | refine W.condT rfl ?_ | refine W.condF rfl ?_ | (refine W.skip ?_; conv => whnf) | (refine W.exit ?_; conv => whnf) | refine W.block ?_ | (refine fun (hlen : (_ : Nat) ≤ _) => ?_; conv => whnf) | (refine okFp_intro (by kernel_rfl) ?_; conv => whnf) | (refine And.intro rfl ?_; conv => whnf) | (refine And.intro (by omega) ?_; conv => whnf) | (refine rowAt_of rfl ?_; conv => whnf) | (refine boolRes_true (by omega) ?_; conv => whnf) | (refine boolRes_false (by omega) ?_; conv => whnf) | (refine boolRes_true rfl ?_; conv => whnf))
          refine ⟨_, _, ?_, ⟨q + 1, by omega, rfl, rfl⟩, [], [], [], LeG.mk' rfl rfl rfl (by rw [show (((l.take (q + 1)).count X[(i + 1)] : Nat) : Int) - (((X.take (q + 1)).count X[(i + 1)] : Nat) : Int) = (((l.take q).count X[(i + 1)] : Nat) : Int) - (((X.take q).count X[(i + 1)] : Nat) : Int) by omega]; repeat' (first | exact trivial | exact ⟨_, .refl _, rfl⟩ | apply And.intro)) .nil rfl rfl (by rw [hK]; rfl)⟩
          omega
      · have hqe : q = l.length := by omega
        subst hqe
        have hz : (((l.take l.length).count X[(i + 1)] : Nat) - ((X.take l.length).count X[(i + 1)] : Nat) : Int) = 0 := by
          rw [List.take_length, List.take_of_length_le (by omega), hcount]; omega
        rw [hz]
        repeat (first | refine W.seq ?_ | (refine W.reg env hN (by kernel_rfl) ?_; conv => whnf) | refine W.condT rfl ?_ | refine W.condF rfl ?_ | (refine W.skip ?_; conv => whnf) | (refine W.exit ?_; conv => whnf) | refine W.block ?_ | (refine fun (hlen : (_ : Nat) ≤ _) => ?_; conv => whnf) | (refine okFp_intro (by kernel_rfl) ?_; conv => whnf) | (refine And.intro rfl ?_; conv => whnf) | (refine And.intro (by omega) ?_; conv => whnf) | (refine rowAt_of rfl ?_; conv => whnf) | (refine boolRes_true (by omega) ?_; conv => whnf) | (refine boolRes_false (by omega) ?_; conv => whnf) | (refine boolRes_true rfl ?_; conv => whnf))
        refine ⟨_, _, ?_, ⟨(i + 1) + 1, by omega, rfl, rfl⟩, ⟨[], [], [], LeG.mk' rfl rfl rfl (by repeat' (first | exact trivial | exact ⟨_, .refl _, rfl⟩ | apply And.intro)) .nil rfl rfl (by rw [hK]; rfl)⟩⟩
        omega
  · repeat (first | refine W.seq ?_ | (refine W.reg env hN (by kernel_rfl) ?_; conv => whnf) | refine W.condT rfl ?_ | refine W.condF rfl ?_ | (refine W.skip ?_; conv => whnf) | (refine W.exit ?_; conv => whnf) | refine W.block ?_ | (refine fun (hlen : (_ : Nat) ≤ _) => ?_; conv => whnf) | (refine okFp_intro (by kernel_rfl) ?_; conv => whnf) | (refine And.intro rfl ?_; conv => whnf) | (refine And.intro (by omega) ?_; conv => whnf) | (refine rowAt_of rfl ?_; conv => whnf) | (refine boolRes_true (by omega) ?_; conv => whnf) | (refine boolRes_false (by omega) ?_; conv => whnf) | (refine boolRes_true rfl ?_; conv => whnf) | (refine W.ret ?_; conv => whnf))
    exact ret0 rfl rfl rfl
end Go.Sx.Sp
