/- What push, merge, finish, Valid, New, Push, Flush, Finish, the dice, Texts and Set compute. -/
import Derived.Test.YtjlfdbjgjohbcaaSpOne
set_option linter.unusedVariables false
set_option linter.unusedSimpArgs false
namespace Go.Sx.Sp
open Go Go.Sx Go.Proofs
attribute [local irreducible] GoodW
def bump (l : List Count) (i : Nat) : List Count := l.modify i fun c => { c with count := c.count + 1 }
def insAt (l : List Count) (i : Nat) (t : List UInt8) : List Count := l.take i ++ ⟨t, 1⟩ :: l.drop i
def Spill.push (s : Spill) (t : List UInt8) : Spill :=
  match found s.buf t with
  | true => { s with buf := bump s.buf (rank s.buf t) }
  | false =>
    if (s.buf.length : Int) = s.mem then { s.flush with buf := [⟨t, 1⟩], peak := max s.flush.peak 1 }
    else { s with buf := insAt s.buf (rank s.buf t) t, peak := max s.peak (s.buf.length + 1) }
theorem push_found {s : Spill} {t : List UInt8} (h : found s.buf t = true) : s.push t = { s with buf := bump s.buf (rank s.buf t) } := by simp only [Spill.push, h]
theorem push_full {s : Spill} {t : List UInt8} (h : found s.buf t = false) (hm : (s.buf.length : Int) = s.mem) : s.push t = { s.flush with buf := [⟨t, 1⟩], peak := max s.flush.peak 1 } := by simp only [Spill.push, h, hm, if_true]
theorem push_room {s : Spill} {t : List UInt8} (h : found s.buf t = false) (hm : ¬ (s.buf.length : Int) = s.mem) : s.push t = { s with buf := insAt s.buf (rank s.buf t) t, peak := max s.peak (s.buf.length + 1) } := by simp only [Spill.push, h, hm, if_false]
theorem found_lt {l : List Count} {t : List UInt8} (h : found l t = true) : rank l t < l.length := by
  unfold found at h
  split at h
  · rename_i c hc; exact (List.getElem?_eq_some_iff.1 hc).1
  · cases h
theorem bump_rows {l : List Count} {i : Nat} (h : i < l.length) : countRows (bump l i) = (countRows l).set i [.str l[i].text, .int .i64 (l[i].count + 1)] := by
  refine List.ext_getElem? fun j => ?_
  simp only [countRows, bump, List.getElem?_map, List.getElem?_modify, List.getElem?_set]
  by_cases hj : i = j
  · subst hj; simp [h, Count.row]
  · simp [hj]
structure Spill.Fine (s : Spill) : Prop extends s.Small where
  written : 0 ≤ s.written ∧ s.written ≤ 2305843009213693952
  sorted : Sorted s.buf
  count : ∀ c ∈ s.buf, 0 ≤ c.count ∧ c.count ≤ 2305843009213693952
def Spill.hout (s : Spill) (kb : Nat) : List (Nat × Blk) := [(0, s.own kb 2), (1, .gone), (2, .rows 1 (runRows s.runs) (some [])), (kb, .rows 2 (countRows s.buf) (some []))]
set_option maxHeartbeats 2000000 in
theorem pushF_spec (s : Spill) (t : List UInt8) (hs : s.Fine) (hf : found s.buf t = true) : Spec Try.prog 37 [.bp 0 0, .str t] s.hin (.tup []) ((s.push t).hout 49) := by
  have hcl := countRows_len s.buf
  have hrl := runRows_len s.runs
  have hsb := hs.buf
  have sp := search_spec s.buf t 0 hs.sorted hs.buf
  have hlt := found_lt hf
  rw [hf] at sp
  rw [push_found hf]
  have hbr := bump_rows hlt
  have hc := hs.count _ (List.getElem_mem hlt)
  have hbl : (countRows (bump s.buf (rank s.buf t))).length = (countRows s.buf).length := by rw [hbr, List.length_set]
  refine Spec.body env Try.func37 rfl (by kernel_rfl) (Nat.le_of_ble_eq_true (by kernel_rfl)) (keysSub rfl) fun Γ hN hK => ?_; have hML : maxLen = 9223372036854775807 := by unfold maxLen; rfl
  repeat (first | refine W.seq ?_ | (refine W.reg env hN (by kernel_rfl) ?_; conv => whnf) | refine W.condT rfl ?_ | refine W.condF rfl ?_ | (refine W.skip ?_; conv => whnf) | (refine W.exit ?_; conv => whnf) | refine W.block ?_ | (refine fun (hlen : (_ : Nat) ≤ _) => ?_; conv => whnf) | (refine okFp_intro (by kernel_rfl) ?_; conv => whnf) | (refine And.intro rfl ?_; conv => whnf) | (refine And.intro (by omega) ?_; conv => whnf) | (refine rowAt_of rfl ?_; conv => whnf) | (refine boolRes_true (by omega) ?_; conv => whnf) | (refine boolRes_false (by omega) ?_; conv => whnf) | (refine boolRes_true rfl ?_; conv => whnf))
  (refine ⟨_, _, _, callG [] [] [1] rfl rfl rfl (by kernel_rfl) (sp) (by exact ⟨Lent.whole rfl rfl rfl rfl (.inl rfl), .refl _, .refl _, trivial⟩) rfl ⟨rfl, rfl, rfl, rfl, rfl, by repeat' (first | exact trivial | rfl | apply And.intro), rfl, rfl⟩, ?_⟩; conv => whnf)
  repeat (first | refine W.seq ?_ | (refine W.reg env hN (by kernel_rfl) ?_; conv => whnf) | refine W.condT rfl ?_ | refine W.condF rfl ?_ | (refine W.skip ?_; conv => whnf) | (refine W.exit ?_; conv => whnf) | refine W.block ?_ | (refine fun (hlen : (_ : Nat) ≤ _) => ?_; conv => whnf) | (refine okFp_intro (by kernel_rfl) ?_; conv => whnf) | (refine And.intro rfl ?_; conv => whnf) | (refine And.intro (by omega) ?_; conv => whnf) | (refine rowAt_of rfl ?_; conv => whnf) | (refine boolRes_true (by omega) ?_; conv => whnf) | (refine boolRes_false (by omega) ?_; conv => whnf) | (refine boolRes_true rfl ?_; conv => whnf))
  have hget : (countRows s.buf)[0 + ((rank s.buf t : Nat) : Int).toNat]? = some (Count.row s.buf[rank s.buf t]) := by simpa using countRows_get hlt
  refine rowAt_of hget ?_
  conv => whnf
  repeat (first | refine W.seq ?_ | (refine W.reg env hN (by kernel_rfl) ?_; conv => whnf) | refine W.condT rfl ?_ | refine W.condF rfl ?_ | (refine W.skip ?_; conv => whnf) | (refine W.exit ?_; conv => whnf) | refine W.block ?_ | (refine fun (hlen : (_ : Nat) ≤ _) => ?_; conv => whnf) | (refine okFp_intro (by kernel_rfl) ?_; conv => whnf) | (refine And.intro rfl ?_; conv => whnf) | (refine And.intro (by omega) ?_; conv => whnf) | (refine rowAt_of rfl ?_; conv => whnf) | (refine boolRes_true (by omega) ?_; conv => whnf) | (refine boolRes_false (by omega) ?_; conv => whnf) | (refine boolRes_true rfl ?_; conv => whnf))
  refine rowAt_of hget ?_
  conv => whnf
  repeat (first | refine W.seq ?_ | (refine W.reg env hN (by kernel_rfl) ?_; conv => whnf) | refine W.condT rfl ?_ | refine W.condF rfl ?_ | (refine W.skip ?_; conv => whnf) | (refine W.exit ?_; conv => whnf) | refine W.block ?_ | (refine fun (hlen : (_ : Nat) ≤ _) => ?_; conv => whnf) | (refine okFp_intro (by kernel_rfl) ?_; conv => whnf) | (refine And.intro rfl ?_; conv => whnf) | (refine And.intro (by omega) ?_; conv => whnf) | (refine rowAt_of rfl ?_; conv => whnf) | (refine boolRes_true (by omega) ?_; conv => whnf) | (refine boolRes_false (by omega) ?_; conv => whnf) | (refine boolRes_true rfl ?_; conv => whnf))
  refine W.leG (mp := [(0, 0), (1, 49), (2, 2)]) (bo := []) (gs := [1]) (st' := ⟨[], [(0, [({ s with buf := bump s.buf (rank s.buf t) } : Spill).own 49 2]), (1, [.gone]), (49, [.rows 2 (countRows (bump s.buf (rank s.buf t))) (some [])]), (2, [.rows 1 (runRows s.runs) (some [])])], [0, 1, 49, 2]⟩)
    (LeG.mkG rfl rfl rfl trivial (.cons 0 rfl rfl (.refl _) (by
        show _ = [s.own 49 2]
        simp only [Spill.own, hbl]) (.old 1 rfl rfl rfl (.cons 1 rfl rfl (.refl _) (by
        show _ = [Blk.rows 2 ((countRows s.buf).set (0 + ((rank s.buf t : Nat) : Int).toNat) [.str s.buf[rank s.buf t].text, .int .i64 (s.buf[rank s.buf t].count + 1)]) (some [])]
        rw [hbr]; simp) (.cons 2 rfl rfl (.refl _) rfl .nil)))) rfl rfl rfl (by rw [hK]; rfl)) ?_
  (refine W.ret ?_; conv => whnf)
  exact retH rfl (.refl _) rfl rfl rfl ⟨rfl, rfl, rfl, rfl, rfl, rfl, rfl, rfl, trivial⟩
set_option maxHeartbeats 2000000 in
theorem pushR_spec (s : Spill) (t : List UInt8) (hs : s.Fine) (hf : found s.buf t = false) (hm : ¬ (s.buf.length : Int) = s.mem) : Spec Try.prog 37 [.bp 0 0, .str t] s.hin (.tup []) ((s.push t).hout 49) := by
  have hcl := countRows_len s.buf
  have hrl := runRows_len s.runs
  have hsb := hs.buf
  have sp := search_spec s.buf t 0 hs.sorted hs.buf
  have hrk := rank_le s.buf t
  rw [hf] at sp
  rw [push_room hf hm]
  refine Spec.body env Try.func37 rfl (by kernel_rfl) (Nat.le_of_ble_eq_true (by kernel_rfl)) (keysSub rfl) fun Γ hN hK => ?_; have hML : maxLen = 9223372036854775807 := by unfold maxLen; rfl
  repeat (first | refine W.seq ?_ | (refine W.reg env hN (by kernel_rfl) ?_; conv => whnf) | refine W.condT rfl ?_ | refine W.condF rfl ?_ | (refine W.skip ?_; conv => whnf) | (refine W.exit ?_; conv => whnf) | refine W.block ?_ | (refine fun (hlen : (_ : Nat) ≤ _) => ?_; conv => whnf) | (refine okFp_intro (by kernel_rfl) ?_; conv => whnf) | (refine And.intro rfl ?_; conv => whnf) | (refine And.intro (by omega) ?_; conv => whnf) | (refine rowAt_of rfl ?_; conv => whnf) | (refine boolRes_true (by omega) ?_; conv => whnf) | (refine boolRes_false (by omega) ?_; conv => whnf) | (refine boolRes_true rfl ?_; conv => whnf))
  (refine ⟨_, _, _, callG [] [] [1] rfl rfl rfl (by kernel_rfl) (sp) (by exact ⟨Lent.whole rfl rfl rfl rfl (.inl rfl), .refl _, .refl _, trivial⟩) rfl ⟨rfl, rfl, rfl, rfl, rfl, by repeat' (first | exact trivial | rfl | apply And.intro), rfl, rfl⟩, ?_⟩; conv => whnf)
  repeat (first | refine W.seq ?_ | (refine W.reg env hN (by kernel_rfl) ?_; conv => whnf) | refine W.condT rfl ?_ | refine W.condF rfl ?_ | (refine W.skip ?_; conv => whnf) | (refine W.exit ?_; conv => whnf) | refine W.block ?_ | (refine fun (hlen : (_ : Nat) ≤ _) => ?_; conv => whnf) | (refine okFp_intro (by kernel_rfl) ?_; conv => whnf) | (refine And.intro rfl ?_; conv => whnf) | (refine And.intro (by omega) ?_; conv => whnf) | (refine rowAt_of rfl ?_; conv => whnf) | (refine boolRes_true (by omega) ?_; conv => whnf) | (refine boolRes_false (by omega) ?_; conv => whnf) | (refine boolRes_true rfl ?_; conv => whnf))
  (refine ⟨_, _, _, callG [(0, 1), (2, 48)] [(40, 49)] [] rfl rfl rfl (by kernel_rfl) (insert_spec s.buf (rank s.buf t) ⟨t, 1⟩ hrk hsb) (by repeat' (first | exact trivial | exact Lent.refl _ | exact Lent.norm _ | apply And.intro)) rfl ⟨rfl, rfl, rfl, rfl, rfl, by repeat' (first | exact trivial | rfl | apply And.intro), rfl, rfl⟩, ?_⟩; conv => whnf)
  repeat (first | refine W.seq ?_ | (refine W.reg env hN (by kernel_rfl) ?_; conv => whnf) | refine W.condT rfl ?_ | refine W.condF rfl ?_ | (refine W.skip ?_; conv => whnf) | (refine W.exit ?_; conv => whnf) | refine W.block ?_ | (refine fun (hlen : (_ : Nat) ≤ _) => ?_; conv => whnf) | (refine okFp_intro (by kernel_rfl) ?_; conv => whnf) | (refine And.intro rfl ?_; conv => whnf) | (refine And.intro (by omega) ?_; conv => whnf) | (refine rowAt_of rfl ?_; conv => whnf) | (refine boolRes_true (by omega) ?_; conv => whnf) | (refine boolRes_false (by omega) ?_; conv => whnf) | (refine boolRes_true rfl ?_; conv => whnf))
  have hil : (countRows (insAt s.buf (rank s.buf t) t)).length = s.buf.length + 1 := by
    rw [countRows_len]; simp [insAt]; omega
  refine ⟨hil.symm, fun hlen => ?_⟩
  conv => whnf
  repeat (first | refine W.seq ?_ | (refine W.reg env hN (by kernel_rfl) ?_; conv => whnf) | refine W.condT rfl ?_ | refine W.condF rfl ?_ | (refine W.skip ?_; conv => whnf) | (refine W.exit ?_; conv => whnf) | refine W.block ?_ | (refine fun (hlen : (_ : Nat) ≤ _) => ?_; conv => whnf) | (refine okFp_intro (by kernel_rfl) ?_; conv => whnf) | (refine And.intro rfl ?_; conv => whnf) | (refine And.intro (by omega) ?_; conv => whnf) | (refine rowAt_of rfl ?_; conv => whnf) | (refine boolRes_true (by omega) ?_; conv => whnf) | (refine boolRes_false (by omega) ?_; conv => whnf) | (refine boolRes_true rfl ?_; conv => whnf))
  exact retHn rfl (.refl _) rfl rfl rfl ⟨(by
      show [Blk.rows 5 [[.int .i64 s.mem, .osl 49 0 0 (s.buf.length + 1) (s.buf.length + 1), .osl 2 0 0 (runRows s.runs).length (runRows s.runs).length, .int .i64 (max s.peak ((s.buf.length + 1 : Nat) : Int)), .int .i64 s.written]] none] = _
      simp only [Spill.own, hil]; simp), rfl, rfl, rfl, rfl, rfl, rfl, rfl, trivial⟩
set_option maxHeartbeats 2000000 in
theorem pushN_spec (s : Spill) (t : List UInt8) (hs : s.Fine) (hf : found s.buf t = false) (hm : (s.buf.length : Int) = s.mem) : Spec Try.prog 37 [.bp 0 0, .str t] s.hin (.tup []) ((s.push t).hout 49) := by
  have hcl := countRows_len s.buf
  have hrl := runRows_len s.runs
  have hsb := hs.buf
  have sp := search_spec s.buf t 0 hs.sorted hs.buf
  rw [hf] at sp
  rw [push_full hf hm]
  refine Spec.body env Try.func37 rfl (by kernel_rfl) (Nat.le_of_ble_eq_true (by kernel_rfl)) (keysSub rfl) fun Γ hN hK => ?_; have hML : maxLen = 9223372036854775807 := by unfold maxLen; rfl
  repeat (first | refine W.seq ?_ | (refine W.reg env hN (by kernel_rfl) ?_; conv => whnf) | refine W.condT rfl ?_ | refine W.condF rfl ?_ | (refine W.skip ?_; conv => whnf) | (refine W.exit ?_; conv => whnf) | refine W.block ?_ | (refine fun (hlen : (_ : Nat) ≤ _) => ?_; conv => whnf) | (refine okFp_intro (by kernel_rfl) ?_; conv => whnf) | (refine And.intro rfl ?_; conv => whnf) | (refine And.intro (by omega) ?_; conv => whnf) | (refine rowAt_of rfl ?_; conv => whnf) | (refine boolRes_true (by omega) ?_; conv => whnf) | (refine boolRes_false (by omega) ?_; conv => whnf) | (refine boolRes_true rfl ?_; conv => whnf))
  (refine ⟨_, _, _, callG [] [] [1] rfl rfl rfl (by kernel_rfl) (sp) (by exact ⟨Lent.whole rfl rfl rfl rfl (.inl rfl), .refl _, .refl _, trivial⟩) rfl ⟨rfl, rfl, rfl, rfl, rfl, by repeat' (first | exact trivial | rfl | apply And.intro), rfl, rfl⟩, ?_⟩; conv => whnf)
  repeat (first | refine W.seq ?_ | (refine W.reg env hN (by kernel_rfl) ?_; conv => whnf) | refine W.condT rfl ?_ | refine W.condF rfl ?_ | (refine W.skip ?_; conv => whnf) | (refine W.exit ?_; conv => whnf) | refine W.block ?_ | (refine fun (hlen : (_ : Nat) ≤ _) => ?_; conv => whnf) | (refine okFp_intro (by kernel_rfl) ?_; conv => whnf) | (refine And.intro rfl ?_; conv => whnf) | (refine And.intro (by omega) ?_; conv => whnf) | (refine rowAt_of rfl ?_; conv => whnf) | (refine boolRes_true (by omega) ?_; conv => whnf) | (refine boolRes_false (by omega) ?_; conv => whnf) | (refine boolRes_true rfl ?_; conv => whnf))
  (refine ⟨_, _, _, callG [(0, 0), (1, 1), (2, 2)] [] [] rfl rfl rfl (by kernel_rfl) (flush_spec s hs.toSmall hs.written) (by repeat' (first | exact trivial | exact Lent.refl _ | exact Lent.norm _ | apply And.intro)) rfl ⟨rfl, rfl, rfl, rfl, rfl, by repeat' (first | exact trivial | rfl | apply And.intro), rfl, rfl⟩, ?_⟩; conv => whnf)
  repeat (first | refine W.seq ?_ | (refine W.reg env hN (by kernel_rfl) ?_; conv => whnf) | refine W.condT rfl ?_ | refine W.condF rfl ?_ | (refine W.skip ?_; conv => whnf) | (refine W.exit ?_; conv => whnf) | refine W.block ?_ | (refine fun (hlen : (_ : Nat) ≤ _) => ?_; conv => whnf) | (refine okFp_intro (by kernel_rfl) ?_; conv => whnf) | (refine And.intro rfl ?_; conv => whnf) | (refine And.intro (by omega) ?_; conv => whnf) | (refine rowAt_of rfl ?_; conv => whnf) | (refine boolRes_true (by omega) ?_; conv => whnf) | (refine boolRes_false (by omega) ?_; conv => whnf) | (refine boolRes_true rfl ?_; conv => whnf))
  (refine ⟨_, _, _, callG [(2, 48)] [(40, 49)] [] rfl rfl rfl (by kernel_rfl) (insert_nil ⟨t, 1⟩) (by repeat' (first | exact trivial | exact Lent.refl _ | exact Lent.norm _ | apply And.intro)) rfl ⟨rfl, rfl, rfl, rfl, rfl, by repeat' (first | exact trivial | rfl | apply And.intro), rfl, rfl⟩, ?_⟩; conv => whnf)
  repeat (first | refine W.seq ?_ | (refine W.reg env hN (by kernel_rfl) ?_; conv => whnf) | refine W.condT rfl ?_ | refine W.condF rfl ?_ | (refine W.skip ?_; conv => whnf) | (refine W.exit ?_; conv => whnf) | refine W.block ?_ | (refine fun (hlen : (_ : Nat) ≤ _) => ?_; conv => whnf) | (refine okFp_intro (by kernel_rfl) ?_; conv => whnf) | (refine And.intro rfl ?_; conv => whnf) | (refine And.intro (by omega) ?_; conv => whnf) | (refine rowAt_of rfl ?_; conv => whnf) | (refine boolRes_true (by omega) ?_; conv => whnf) | (refine boolRes_false (by omega) ?_; conv => whnf) | (refine boolRes_true rfl ?_; conv => whnf))
  exact retHn rfl (.refl _) rfl rfl rfl ⟨rfl, rfl, rfl, rfl, rfl, rfl, rfl, rfl, trivial⟩
theorem push_spec (s : Spill) (t : List UInt8) (hs : s.Fine) : Spec Try.prog 37 [.bp 0 0, .str t] s.hin (.tup []) ((s.push t).hout 49) := by
  cases hf : found s.buf t with
  | true => exact pushF_spec s t hs hf
  | false =>
    by_cases hm : (s.buf.length : Int) = s.mem
    · exact pushN_spec s t hs hf hm
    · exact pushR_spec s t hs hf hm
end Go.Sx.Sp
namespace Go.Sx.Sp
open Go Go.Sx Go.Proofs
attribute [local irreducible] GoodW
def merged : List Count → List Count → List Count
  | [], b => b
  | a, [] => a
  | x :: a, y :: b =>
    if Op.bytesLess x.text y.text = true then x :: merged a (y :: b)
    else if x.text = y.text then ⟨x.text, x.count + y.count⟩ :: merged a b
    else y :: merged (x :: a) b
termination_by a b => a.length + b.length
theorem merged_nil_left (b : List Count) : merged [] b = b := by simp [merged]
theorem merged_nil_right (a : List Count) : merged a [] = a := by cases a <;> simp [merged]
theorem merged_cons (x : Count) (a : List Count) (y : Count) (b : List Count) : merged (x :: a) (y :: b) = if Op.bytesLess x.text y.text = true then x :: merged a (y :: b) else if x.text = y.text then ⟨x.text, x.count + y.count⟩ :: merged a b else y :: merged (x :: a) b := by
  rw [merged]
theorem cmpT_m1 {a b : List UInt8} : cmpT a b = -1 ↔ Op.bytesLess a b = true := by
  unfold cmpT
  by_cases h : Op.bytesLess a b = true
  · simp [h]
  · by_cases h2 : a = b <;> simp [h, h2, less_irrefl]
theorem cmpT_1 {a b : List UInt8} : cmpT a b = 1 ↔ ¬ Op.bytesLess a b = true ∧ a ≠ b := by
  unfold cmpT
  by_cases h : Op.bytesLess a b = true
  · simp [h]
  · by_cases h2 : a = b <;> simp [h, h2, less_irrefl]
def Counts (l : List Count) : Prop := ∀ c ∈ l, 0 ≤ c.count ∧ c.count ≤ 2305843009213693952
set_option maxHeartbeats 4000000 in
theorem merged_spec (a0 b0 : List Count) (ha : a0.length ≤ 4294967296) (hb0 : b0.length ≤ 4294967296) (hca : Counts a0) (hcb : Counts b0) : Spec Try.prog 54 [.sl (countRows a0) false, .sl (countRows b0) false] [] (.sl (countRows (merged a0 b0)) false) [] := by
  refine Spec.body env Try.func54 rfl (by kernel_rfl) (Nat.le_of_ble_eq_true (by kernel_rfl)) (keysSub rfl) fun Γ hN hK => ?_; have hML : maxLen = 9223372036854775807 := by unfold maxLen; rfl
  have hla := countRows_len a0
  have hlb := countRows_len b0
  repeat (first | refine W.seq ?_ | (refine W.reg env hN (by kernel_rfl) ?_; conv => whnf) | refine W.condT rfl ?_ | refine W.condF rfl ?_ | (refine W.skip ?_; conv => whnf) | (refine W.exit ?_; conv => whnf) | refine W.block ?_ | (refine fun (hlen : (_ : Nat) ≤ _) => ?_; conv => whnf) | (refine okFp_intro (by kernel_rfl) ?_; conv => whnf) | (refine And.intro rfl ?_; conv => whnf) | (refine And.intro (by omega) ?_; conv => whnf) | (refine rowAt_of rfl ?_; conv => whnf) | (refine boolRes_true (by omega) ?_; conv => whnf) | (refine boolRes_false (by omega) ?_; conv => whnf) | (refine boolRes_true rfl ?_; conv => whnf))
  refine ⟨⟨by omega, by omega, (by show ((countRows a0).length + (countRows b0).length : Int) * (24 : Nat) ≤ _; omega), by omega⟩, ?_⟩
  conv => whnf
  repeat (first | refine W.seq ?_ | (refine W.reg env hN (by kernel_rfl) ?_; conv => whnf) | refine W.condT rfl ?_ | refine W.condF rfl ?_ | (refine W.skip ?_; conv => whnf) | (refine W.exit ?_; conv => whnf) | refine W.block ?_ | (refine fun (hlen : (_ : Nat) ≤ _) => ?_; conv => whnf) | (refine okFp_intro (by kernel_rfl) ?_; conv => whnf) | (refine And.intro rfl ?_; conv => whnf) | (refine And.intro (by omega) ?_; conv => whnf) | (refine rowAt_of rfl ?_; conv => whnf) | (refine boolRes_true (by omega) ?_; conv => whnf) | (refine boolRes_false (by omega) ?_; conv => whnf) | (refine boolRes_true rfl ?_; conv => whnf))
  refine W.loopG (fun n st => ∃ a b out : List Count, a <:+ a0 ∧ b <:+ b0 ∧ merged a0 b0 = out ++ merged a b ∧ out.length + a.length + b.length ≤ a0.length + b0.length ∧ n = a.length + b.length ∧ st = ⟨[(0, .sl (countRows a) false), (1, .sl (countRows b) false), (5, .osl 12 0 0 (countRows out).length (countRows out).length)], [(12, [.rows 2 (countRows out) (some [])])], [12]⟩)
    (a0.length + b0.length) _ ⟨a0, b0, [], List.suffix_refl _, List.suffix_refl _, rfl, by simp, rfl, rfl⟩ ⟨[(12, 12)], [], [], LeG.mk' rfl rfl rfl (by repeat' (first | exact trivial | exact ⟨_, .refl _, rfl⟩ | apply And.intro)) (.cons 12 rfl rfl (.refl _) rfl .nil) rfl rfl (by rw [hK]; rfl)⟩ ?_
  rintro n st ⟨a, b, out, hsa, hsb, hm, hlen0, rfl, rfl⟩
  have hlo := countRows_len out
  have hla' := countRows_len a
  have hlb' := countRows_len b
  rcases a with _ | ⟨x, a⟩
  · have h0 : (countRows ([] : List Count)).length = 0 := rfl
    rw [merged_nil_left] at hm
    simp only [List.length_nil] at hlen0
    repeat (first | refine W.seq ?_ | (refine W.reg env hN (by kernel_rfl) ?_; conv => whnf) | refine W.condT rfl ?_ | refine W.condF rfl ?_ | (refine W.skip ?_; conv => whnf) | (refine W.exit ?_; conv => whnf) | refine W.block ?_ | (refine fun (hlen : (_ : Nat) ≤ _) => ?_; conv => whnf) | (refine okFp_intro (by kernel_rfl) ?_; conv => whnf) | (refine And.intro rfl ?_; conv => whnf) | (refine And.intro (by omega) ?_; conv => whnf) | (refine rowAt_of rfl ?_; conv => whnf) | (refine boolRes_true (by omega) ?_; conv => whnf) | (refine boolRes_false (by omega) ?_; conv => whnf) | (refine boolRes_true rfl ?_; conv => whnf))
    refine ⟨⟨countRows_sz _, rfl⟩, fits24 (n := (countRows out).length + (countRows []).length) (by omega), .inl ⟨rfl, rfl, ?_⟩⟩
    conv => whnf
    repeat (first | refine W.seq ?_ | (refine W.reg env hN (by kernel_rfl) ?_; conv => whnf) | refine W.condT rfl ?_ | refine W.condF rfl ?_ | (refine W.skip ?_; conv => whnf) | (refine W.exit ?_; conv => whnf) | refine W.block ?_ | (refine fun (hlen : (_ : Nat) ≤ _) => ?_; conv => whnf) | (refine okFp_intro (by kernel_rfl) ?_; conv => whnf) | (refine And.intro rfl ?_; conv => whnf) | (refine And.intro (by omega) ?_; conv => whnf) | (refine rowAt_of rfl ?_; conv => whnf) | (refine boolRes_true (by omega) ?_; conv => whnf) | (refine boolRes_false (by omega) ?_; conv => whnf) | (refine boolRes_true rfl ?_; conv => whnf))
    refine ⟨⟨countRows_sz _, by simp⟩, fits24 (n := (countRows out).length + (countRows []).length + (countRows b).length) (by omega), .inl ⟨rfl, rfl, ?_⟩⟩
    conv => whnf
    repeat (first | refine W.seq ?_ | (refine W.reg env hN (by kernel_rfl) ?_; conv => whnf) | refine W.condT rfl ?_ | refine W.condF rfl ?_ | (refine W.skip ?_; conv => whnf) | (refine W.exit ?_; conv => whnf) | refine W.block ?_ | (refine fun (hlen : (_ : Nat) ≤ _) => ?_; conv => whnf) | (refine okFp_intro (by kernel_rfl) ?_; conv => whnf) | (refine And.intro rfl ?_; conv => whnf) | (refine And.intro (by omega) ?_; conv => whnf) | (refine rowAt_of rfl ?_; conv => whnf) | (refine boolRes_true (by omega) ?_; conv => whnf) | (refine boolRes_false (by omega) ?_; conv => whnf) | (refine boolRes_true rfl ?_; conv => whnf))
    refine W.leG (mp := []) (bo := [12]) (st' := ⟨[(4, .sl (countRows (merged a0 b0)) false)], [], []⟩) (LeG.mk' rfl rfl rfl ⟨⟨_, Lent.whole (rows := countRows out ++ countRows [] ++ countRows b) rfl rfl (by simp; omega) rfl (.inl rfl), (by show V.sl (countRows out ++ countRows [] ++ countRows b) false = _; rw [hm]; simp [countRows])⟩, trivial⟩ .nil rfl rfl (by rw [hK]; rfl)) ?_
    (refine W.ret ?_; conv => whnf)
    exact ret0 rfl rfl rfl
  rcases b with _ | ⟨y, b⟩
  · have h0 : (countRows ([] : List Count)).length = 0 := rfl
    rw [merged_nil_right] at hm
    simp only [List.length_cons, List.length_nil] at hla' hlen0
    repeat (first | refine W.seq ?_ | (refine W.reg env hN (by kernel_rfl) ?_; conv => whnf) | refine W.condT rfl ?_ | refine W.condF rfl ?_ | (refine W.skip ?_; conv => whnf) | (refine W.exit ?_; conv => whnf) | refine W.block ?_ | (refine fun (hlen : (_ : Nat) ≤ _) => ?_; conv => whnf) | (refine okFp_intro (by kernel_rfl) ?_; conv => whnf) | (refine And.intro rfl ?_; conv => whnf) | (refine And.intro (by omega) ?_; conv => whnf) | (refine rowAt_of rfl ?_; conv => whnf) | (refine boolRes_true (by omega) ?_; conv => whnf) | (refine boolRes_false (by omega) ?_; conv => whnf) | (refine boolRes_true rfl ?_; conv => whnf))
    refine ⟨⟨countRows_sz _, rfl⟩, fits24 (n := (countRows out).length + (countRows (x :: a)).length) (by omega), .inl ⟨rfl, rfl, ?_⟩⟩
    conv => whnf
    repeat (first | refine W.seq ?_ | (refine W.reg env hN (by kernel_rfl) ?_; conv => whnf) | refine W.condT rfl ?_ | refine W.condF rfl ?_ | (refine W.skip ?_; conv => whnf) | (refine W.exit ?_; conv => whnf) | refine W.block ?_ | (refine fun (hlen : (_ : Nat) ≤ _) => ?_; conv => whnf) | (refine okFp_intro (by kernel_rfl) ?_; conv => whnf) | (refine And.intro rfl ?_; conv => whnf) | (refine And.intro (by omega) ?_; conv => whnf) | (refine rowAt_of rfl ?_; conv => whnf) | (refine boolRes_true (by omega) ?_; conv => whnf) | (refine boolRes_false (by omega) ?_; conv => whnf) | (refine boolRes_true rfl ?_; conv => whnf))
    refine ⟨⟨countRows_sz _, by simp⟩, fits24 (n := (countRows out).length + (countRows (x :: a)).length + (countRows []).length) (by omega), .inl ⟨rfl, rfl, ?_⟩⟩
    conv => whnf
    repeat (first | refine W.seq ?_ | (refine W.reg env hN (by kernel_rfl) ?_; conv => whnf) | refine W.condT rfl ?_ | refine W.condF rfl ?_ | (refine W.skip ?_; conv => whnf) | (refine W.exit ?_; conv => whnf) | refine W.block ?_ | (refine fun (hlen : (_ : Nat) ≤ _) => ?_; conv => whnf) | (refine okFp_intro (by kernel_rfl) ?_; conv => whnf) | (refine And.intro rfl ?_; conv => whnf) | (refine And.intro (by omega) ?_; conv => whnf) | (refine rowAt_of rfl ?_; conv => whnf) | (refine boolRes_true (by omega) ?_; conv => whnf) | (refine boolRes_false (by omega) ?_; conv => whnf) | (refine boolRes_true rfl ?_; conv => whnf))
    refine W.leG (mp := []) (bo := [12]) (st' := ⟨[(4, .sl (countRows (merged a0 b0)) false)], [], []⟩) (LeG.mk' rfl rfl rfl ⟨⟨_, Lent.whole (rows := countRows out ++ countRows (x :: a) ++ countRows []) rfl rfl (by simp; omega) rfl (.inl rfl), (by show V.sl (countRows out ++ countRows (x :: a) ++ countRows []) false = _; rw [hm]; simp [countRows])⟩, trivial⟩ .nil rfl rfl (by rw [hK]; rfl)) ?_
    (refine W.ret ?_; conv => whnf)
    exact ret0 rfl rfl rfl
  simp only [List.length_cons] at hla' hlb' hlen0
  rw [merged_cons] at hm
  have hx := hca x (hsa.subset (by simp))
  have hy := hcb y (hsb.subset (by simp))
  have hsa' : a <:+ a0 := (List.suffix_cons x a).trans hsa
  have hsb' : b <:+ b0 := (List.suffix_cons y b).trans hsb
  have happ : ∀ c : Count, countRows out ++ [c.row] = countRows (out ++ [c]) := fun c => by simp [countRows]
  have hlx : ∀ c : Count, (countRows (out ++ [c])).length = (countRows out).length + 1 := fun c => by simp [countRows]
  have htx : ∀ (c : Count) (l : List Count), ((countRows (c :: l)).take ((countRows (c :: l)).length : Int).toNat).drop (1 : Int).toNat = countRows l := fun c l => by
    rw [Int.toNat_natCast, List.take_length]; rfl
  repeat (first | refine W.seq ?_ | (refine W.reg env hN (by kernel_rfl) ?_; conv => whnf) | refine W.condT rfl ?_ | refine W.condF rfl ?_ | (refine W.skip ?_; conv => whnf) | (refine W.exit ?_; conv => whnf) | refine W.block ?_ | (refine fun (hlen : (_ : Nat) ≤ _) => ?_; conv => whnf) | (refine okFp_intro (by kernel_rfl) ?_; conv => whnf) | (refine And.intro rfl ?_; conv => whnf) | (refine And.intro (by omega) ?_; conv => whnf) | (refine rowAt_of rfl ?_; conv => whnf) | (refine boolRes_true (by omega) ?_; conv => whnf) | (refine boolRes_false (by omega) ?_; conv => whnf) | (refine boolRes_true rfl ?_; conv => whnf))
  (refine ⟨_, _, _, callG [] [] [] rfl rfl rfl (by kernel_rfl) (byText_spec x y) (by repeat' (first | exact trivial | exact Lent.refl _ | exact Lent.norm _ | apply And.intro)) rfl ⟨rfl, rfl, rfl, rfl, rfl, by repeat' (first | exact trivial | rfl | apply And.intro), rfl, rfl⟩, ?_⟩; conv => whnf)
  repeat (first | refine W.seq ?_ | (refine W.reg env hN (by kernel_rfl) ?_; conv => whnf) | refine W.condT rfl ?_ | refine W.condF rfl ?_ | (refine W.skip ?_; conv => whnf) | (refine W.exit ?_; conv => whnf) | refine W.block ?_ | (refine fun (hlen : (_ : Nat) ≤ _) => ?_; conv => whnf) | (refine okFp_intro (by kernel_rfl) ?_; conv => whnf) | (refine And.intro rfl ?_; conv => whnf) | (refine And.intro (by omega) ?_; conv => whnf) | (refine rowAt_of rfl ?_; conv => whnf) | (refine boolRes_true (by omega) ?_; conv => whnf) | (refine boolRes_false (by omega) ?_; conv => whnf) | (refine boolRes_true rfl ?_; conv => whnf))
  refine boolRes_split (fun hb => ?_) (fun hb => ?_) <;> conv => whnf
  · rw [if_pos (cmpT_m1.1 hb)] at hm
    repeat (first | refine W.seq ?_ | (refine W.reg env hN (by kernel_rfl) ?_; conv => whnf) | refine W.condT rfl ?_ | refine W.condF rfl ?_ | (refine W.skip ?_; conv => whnf) | (refine W.exit ?_; conv => whnf) | refine W.block ?_ | (refine fun (hlen : (_ : Nat) ≤ _) => ?_; conv => whnf) | (refine okFp_intro (by kernel_rfl) ?_; conv => whnf) | (refine And.intro rfl ?_; conv => whnf) | (refine And.intro (by omega) ?_; conv => whnf) | (refine rowAt_of rfl ?_; conv => whnf) | (refine boolRes_true (by omega) ?_; conv => whnf) | (refine boolRes_false (by omega) ?_; conv => whnf) | (refine boolRes_true rfl ?_; conv => whnf))
    refine ⟨⟨rfl, rfl⟩, fits24 (n := (countRows out).length + 1) (by omega), .inl ⟨rfl, rfl, ?_⟩⟩
    conv => whnf
    repeat (first | refine W.seq ?_ | (refine W.reg env hN (by kernel_rfl) ?_; conv => whnf) | refine W.condT rfl ?_ | refine W.condF rfl ?_ | (refine W.skip ?_; conv => whnf) | (refine W.exit ?_; conv => whnf) | refine W.block ?_ | (refine fun (hlen : (_ : Nat) ≤ _) => ?_; conv => whnf) | (refine okFp_intro (by kernel_rfl) ?_; conv => whnf) | (refine And.intro rfl ?_; conv => whnf) | (refine And.intro (by omega) ?_; conv => whnf) | (refine rowAt_of rfl ?_; conv => whnf) | (refine boolRes_true (by omega) ?_; conv => whnf) | (refine boolRes_false (by omega) ?_; conv => whnf) | (refine boolRes_true rfl ?_; conv => whnf))
    refine ⟨countRows_sz _, ?_⟩
    conv => whnf
    repeat (first | refine W.seq ?_ | (refine W.reg env hN (by kernel_rfl) ?_; conv => whnf) | refine W.condT rfl ?_ | refine W.condF rfl ?_ | (refine W.skip ?_; conv => whnf) | (refine W.exit ?_; conv => whnf) | refine W.block ?_ | (refine fun (hlen : (_ : Nat) ≤ _) => ?_; conv => whnf) | (refine okFp_intro (by kernel_rfl) ?_; conv => whnf) | (refine And.intro rfl ?_; conv => whnf) | (refine And.intro (by omega) ?_; conv => whnf) | (refine rowAt_of rfl ?_; conv => whnf) | (refine boolRes_true (by omega) ?_; conv => whnf) | (refine boolRes_false (by omega) ?_; conv => whnf) | (refine boolRes_true rfl ?_; conv => whnf))
    refine ⟨_, _, ?_, ⟨a, (y :: b), out ++ [x], hsa', hsb, by rw [hm]; simp, by simp; omega, rfl, rfl⟩, [(12, 12)], [], [], LeG.mk' rfl rfl rfl ⟨⟨_, .refl _, (by show V.sl (List.drop (1 : Int).toNat (List.take ((countRows (x :: a)).length : Int).toNat (countRows (x :: a)))) false = _; rw [htx])⟩, ⟨_, .refl _, rfl⟩, ⟨_, .refl _, (by show V.osl 12 0 0 ((countRows out).length + 1) ((countRows out).length + 1) = _; rw [hlx])⟩, trivial⟩ (.cons 12 rfl rfl (.refl _) (by show _ = [Blk.rows 2 (countRows out ++ [Count.row x]) (some [])]; rw [happ]) .nil) rfl rfl (by rw [hK]; rfl)⟩
    simp only [List.length_cons]; omega
  · have hnl : ¬ Op.bytesLess x.text y.text = true := fun h => hb (cmpT_m1.2 h)
    rw [if_neg hnl] at hm
    repeat (first | refine W.seq ?_ | (refine W.reg env hN (by kernel_rfl) ?_; conv => whnf) | refine W.condT rfl ?_ | refine W.condF rfl ?_ | (refine W.skip ?_; conv => whnf) | (refine W.exit ?_; conv => whnf) | refine W.block ?_ | (refine fun (hlen : (_ : Nat) ≤ _) => ?_; conv => whnf) | (refine okFp_intro (by kernel_rfl) ?_; conv => whnf) | (refine And.intro rfl ?_; conv => whnf) | (refine And.intro (by omega) ?_; conv => whnf) | (refine rowAt_of rfl ?_; conv => whnf) | (refine boolRes_true (by omega) ?_; conv => whnf) | (refine boolRes_false (by omega) ?_; conv => whnf) | (refine boolRes_true rfl ?_; conv => whnf))
    refine boolRes_split (fun hb => ?_) (fun hb => ?_) <;> conv => whnf
    · have hne := (cmpT_1.1 hb).2
      rw [if_neg hne] at hm
      repeat (first | refine W.seq ?_ | (refine W.reg env hN (by kernel_rfl) ?_; conv => whnf) | refine W.condT rfl ?_ | refine W.condF rfl ?_ | (refine W.skip ?_; conv => whnf) | (refine W.exit ?_; conv => whnf) | refine W.block ?_ | (refine fun (hlen : (_ : Nat) ≤ _) => ?_; conv => whnf) | (refine okFp_intro (by kernel_rfl) ?_; conv => whnf) | (refine And.intro rfl ?_; conv => whnf) | (refine And.intro (by omega) ?_; conv => whnf) | (refine rowAt_of rfl ?_; conv => whnf) | (refine boolRes_true (by omega) ?_; conv => whnf) | (refine boolRes_false (by omega) ?_; conv => whnf) | (refine boolRes_true rfl ?_; conv => whnf))
      refine ⟨⟨rfl, rfl⟩, fits24 (n := (countRows out).length + 1) (by omega), .inl ⟨rfl, rfl, ?_⟩⟩
      conv => whnf
      repeat (first | refine W.seq ?_ | (refine W.reg env hN (by kernel_rfl) ?_; conv => whnf) | refine W.condT rfl ?_ | refine W.condF rfl ?_ | (refine W.skip ?_; conv => whnf) | (refine W.exit ?_; conv => whnf) | refine W.block ?_ | (refine fun (hlen : (_ : Nat) ≤ _) => ?_; conv => whnf) | (refine okFp_intro (by kernel_rfl) ?_; conv => whnf) | (refine And.intro rfl ?_; conv => whnf) | (refine And.intro (by omega) ?_; conv => whnf) | (refine rowAt_of rfl ?_; conv => whnf) | (refine boolRes_true (by omega) ?_; conv => whnf) | (refine boolRes_false (by omega) ?_; conv => whnf) | (refine boolRes_true rfl ?_; conv => whnf))
      refine ⟨countRows_sz _, ?_⟩
      conv => whnf
      repeat (first | refine W.seq ?_ | (refine W.reg env hN (by kernel_rfl) ?_; conv => whnf) | refine W.condT rfl ?_ | refine W.condF rfl ?_ | (refine W.skip ?_; conv => whnf) | (refine W.exit ?_; conv => whnf) | refine W.block ?_ | (refine fun (hlen : (_ : Nat) ≤ _) => ?_; conv => whnf) | (refine okFp_intro (by kernel_rfl) ?_; conv => whnf) | (refine And.intro rfl ?_; conv => whnf) | (refine And.intro (by omega) ?_; conv => whnf) | (refine rowAt_of rfl ?_; conv => whnf) | (refine boolRes_true (by omega) ?_; conv => whnf) | (refine boolRes_false (by omega) ?_; conv => whnf) | (refine boolRes_true rfl ?_; conv => whnf))
      refine ⟨_, _, ?_, ⟨(x :: a), b, out ++ [y], hsa, hsb', by rw [hm]; simp, by simp; omega, rfl, rfl⟩, [(12, 12)], [], [], LeG.mk' rfl rfl rfl ⟨⟨_, .refl _, rfl⟩, ⟨_, .refl _, (by show V.sl (List.drop (1 : Int).toNat (List.take ((countRows (y :: b)).length : Int).toNat (countRows (y :: b)))) false = _; rw [htx])⟩, ⟨_, .refl _, (by show V.osl 12 0 0 ((countRows out).length + 1) ((countRows out).length + 1) = _; rw [hlx])⟩, trivial⟩ (.cons 12 rfl rfl (.refl _) (by show _ = [Blk.rows 2 (countRows out ++ [Count.row y]) (some [])]; rw [happ]) .nil) rfl rfl (by rw [hK]; rfl)⟩
      simp only [List.length_cons]; omega
    · have heq : x.text = y.text := by
        by_cases he : x.text = y.text
        · exact he
        · exact absurd (cmpT_1.2 ⟨hnl, he⟩) hb
      rw [if_pos heq] at hm
      repeat (first | refine W.seq ?_ | (refine W.reg env hN (by kernel_rfl) ?_; conv => whnf) | refine W.condT rfl ?_ | refine W.condF rfl ?_ | (refine W.skip ?_; conv => whnf) | (refine W.exit ?_; conv => whnf) | refine W.block ?_ | (refine fun (hlen : (_ : Nat) ≤ _) => ?_; conv => whnf) | (refine okFp_intro (by kernel_rfl) ?_; conv => whnf) | (refine And.intro rfl ?_; conv => whnf) | (refine And.intro (by omega) ?_; conv => whnf) | (refine rowAt_of rfl ?_; conv => whnf) | (refine boolRes_true (by omega) ?_; conv => whnf) | (refine boolRes_false (by omega) ?_; conv => whnf) | (refine boolRes_true rfl ?_; conv => whnf))
      refine ⟨⟨rfl, rfl⟩, fits24 (n := (countRows out).length + 1) (by omega), .inl ⟨rfl, rfl, ?_⟩⟩
      conv => whnf
      repeat (first | refine W.seq ?_ | (refine W.reg env hN (by kernel_rfl) ?_; conv => whnf) | refine W.condT rfl ?_ | refine W.condF rfl ?_ | (refine W.skip ?_; conv => whnf) | (refine W.exit ?_; conv => whnf) | refine W.block ?_ | (refine fun (hlen : (_ : Nat) ≤ _) => ?_; conv => whnf) | (refine okFp_intro (by kernel_rfl) ?_; conv => whnf) | (refine And.intro rfl ?_; conv => whnf) | (refine And.intro (by omega) ?_; conv => whnf) | (refine rowAt_of rfl ?_; conv => whnf) | (refine boolRes_true (by omega) ?_; conv => whnf) | (refine boolRes_false (by omega) ?_; conv => whnf) | (refine boolRes_true rfl ?_; conv => whnf))
      refine ⟨countRows_sz _, ?_⟩
      conv => whnf
      repeat (first | refine W.seq ?_ | (refine W.reg env hN (by kernel_rfl) ?_; conv => whnf) | refine W.condT rfl ?_ | refine W.condF rfl ?_ | (refine W.skip ?_; conv => whnf) | (refine W.exit ?_; conv => whnf) | refine W.block ?_ | (refine fun (hlen : (_ : Nat) ≤ _) => ?_; conv => whnf) | (refine okFp_intro (by kernel_rfl) ?_; conv => whnf) | (refine And.intro rfl ?_; conv => whnf) | (refine And.intro (by omega) ?_; conv => whnf) | (refine rowAt_of rfl ?_; conv => whnf) | (refine boolRes_true (by omega) ?_; conv => whnf) | (refine boolRes_false (by omega) ?_; conv => whnf) | (refine boolRes_true rfl ?_; conv => whnf))
      refine ⟨countRows_sz _, ?_⟩
      conv => whnf
      repeat (first | refine W.seq ?_ | (refine W.reg env hN (by kernel_rfl) ?_; conv => whnf) | refine W.condT rfl ?_ | refine W.condF rfl ?_ | (refine W.skip ?_; conv => whnf) | (refine W.exit ?_; conv => whnf) | refine W.block ?_ | (refine fun (hlen : (_ : Nat) ≤ _) => ?_; conv => whnf) | (refine okFp_intro (by kernel_rfl) ?_; conv => whnf) | (refine And.intro rfl ?_; conv => whnf) | (refine And.intro (by omega) ?_; conv => whnf) | (refine rowAt_of rfl ?_; conv => whnf) | (refine boolRes_true (by omega) ?_; conv => whnf) | (refine boolRes_false (by omega) ?_; conv => whnf) | (refine boolRes_true rfl ?_; conv => whnf))
      refine ⟨_, _, ?_, ⟨a, b, out ++ [⟨x.text, x.count + y.count⟩], hsa', hsb', by rw [hm]; simp, by simp; omega, rfl, rfl⟩, [(12, 12)], [], [], LeG.mk' rfl rfl rfl ⟨⟨_, .refl _, (by show V.sl (List.drop (1 : Int).toNat (List.take ((countRows (x :: a)).length : Int).toNat (countRows (x :: a)))) false = _; rw [htx])⟩, ⟨_, .refl _, (by show V.sl (List.drop (1 : Int).toNat (List.take ((countRows (y :: b)).length : Int).toNat (countRows (y :: b)))) false = _; rw [htx])⟩, ⟨_, .refl _, (by show V.osl 12 0 0 ((countRows out).length + 1) ((countRows out).length + 1) = _; rw [hlx])⟩, trivial⟩ (.cons 12 rfl rfl (.refl _) (by show _ = [Blk.rows 2 (countRows out ++ [Count.row ⟨x.text, x.count + y.count⟩]) (some [])]; rw [happ]) .nil) rfl rfl (by rw [hK]; rfl)⟩
      simp only [List.length_cons]; omega
end Go.Sx.Sp
namespace Go.Sx.Sp
open Go Go.Sx Go.Proofs
attribute [local irreducible] GoodW
theorem merged_len : ∀ (a b : List Count), (merged a b).length ≤ a.length + b.length
  | [], b => by rw [merged_nil_left]; simp
  | x :: a, [] => by rw [merged_nil_right]; simp
  | x :: a, y :: b => by
    rw [merged_cons]
    split
    · have := merged_len a (y :: b); simp only [List.length_cons] at *; omega
    · split
      · have := merged_len a b; simp only [List.length_cons] at *; omega
      · have := merged_len (x :: a) b; simp only [List.length_cons] at *; omega
termination_by a b => a.length + b.length
def Spill.merge (s : Spill) : Spill := match s.runs with
  | a :: b :: r => { s with runs := r ++ [merged a b], written := s.written + (merged a b).length, peak := max s.peak 2 }
  | _ => s
set_option maxHeartbeats 2000000 in
theorem mergeNil_spec (s : Spill) (a b : List Count) (r : List (List Count)) (he : s.runs = a :: b :: r) (hla : a.length ≤ 4294967296) (hlb : b.length ≤ 4294967296) (hlr : r.length ≤ 4294967296) (hca : Counts a) (hcb : Counts b) (hw : 0 ≤ s.written ∧ s.written ≤ 2305843009213693952) :
    Spec Try.prog 41 [.bp 0 0] [(0, s.ownNil 2), (2, .rows 1 (runRows s.runs) (some []))] (.tup []) [(0, s.merge.ownNil 24), (2, .gone), (24, .rows 1 (runRows s.merge.runs) (some []))] := by
  have hm : s.merge = { s with runs := r ++ [merged a b], written := s.written + (merged a b).length, peak := max s.peak 2 } := by simp only [Spill.merge, he]
  rw [hm]
  have hml := merged_len a b
  have hcm := countRows_len (merged a b)
  have hn : (runRows s.runs).length = r.length + 2 := by rw [runRows_len, he]; rfl
  have h0 : (runRows s.runs)[0]? = some [.sl (countRows a) false] := by rw [he]; rfl
  have h1 : (runRows s.runs)[1]? = some [.sl (countRows b) false] := by rw [he]; rfl
  have hd : (runRows s.runs).drop 2 = runRows r := by rw [he]; rfl
  refine Spec.body env Try.func41 rfl (by kernel_rfl) (Nat.le_of_ble_eq_true (by kernel_rfl)) (keysSub rfl) fun Γ hN hK => ?_; have hML : maxLen = 9223372036854775807 := by unfold maxLen; rfl
  repeat (first | refine W.seq ?_ | (refine W.reg env hN (by kernel_rfl) ?_; conv => whnf) | refine W.condT rfl ?_ | refine W.condF rfl ?_ | (refine W.skip ?_; conv => whnf) | (refine W.exit ?_; conv => whnf) | refine W.block ?_ | (refine fun (hlen : (_ : Nat) ≤ _) => ?_; conv => whnf) | (refine okFp_intro (by kernel_rfl) ?_; conv => whnf) | (refine And.intro rfl ?_; conv => whnf) | (refine And.intro (by omega) ?_; conv => whnf) | (refine rowAt_of rfl ?_; conv => whnf) | (refine boolRes_true (by omega) ?_; conv => whnf) | (refine boolRes_false (by omega) ?_; conv => whnf) | (refine boolRes_true rfl ?_; conv => whnf))
  refine rowAt_of h0 ?_
  conv => whnf
  repeat (first | refine W.seq ?_ | (refine W.reg env hN (by kernel_rfl) ?_; conv => whnf) | refine W.condT rfl ?_ | refine W.condF rfl ?_ | (refine W.skip ?_; conv => whnf) | (refine W.exit ?_; conv => whnf) | refine W.block ?_ | (refine fun (hlen : (_ : Nat) ≤ _) => ?_; conv => whnf) | (refine okFp_intro (by kernel_rfl) ?_; conv => whnf) | (refine And.intro rfl ?_; conv => whnf) | (refine And.intro (by omega) ?_; conv => whnf) | (refine rowAt_of rfl ?_; conv => whnf) | (refine boolRes_true (by omega) ?_; conv => whnf) | (refine boolRes_false (by omega) ?_; conv => whnf) | (refine boolRes_true rfl ?_; conv => whnf))
  refine rowAt_of h1 ?_
  conv => whnf
  repeat (first | refine W.seq ?_ | (refine W.reg env hN (by kernel_rfl) ?_; conv => whnf) | refine W.condT rfl ?_ | refine W.condF rfl ?_ | (refine W.skip ?_; conv => whnf) | (refine W.exit ?_; conv => whnf) | refine W.block ?_ | (refine fun (hlen : (_ : Nat) ≤ _) => ?_; conv => whnf) | (refine okFp_intro (by kernel_rfl) ?_; conv => whnf) | (refine And.intro rfl ?_; conv => whnf) | (refine And.intro (by omega) ?_; conv => whnf) | (refine rowAt_of rfl ?_; conv => whnf) | (refine boolRes_true (by omega) ?_; conv => whnf) | (refine boolRes_false (by omega) ?_; conv => whnf) | (refine boolRes_true rfl ?_; conv => whnf))
  (refine ⟨_, _, _, callG [] [] [] rfl rfl rfl (by kernel_rfl) (merged_spec a b hla hlb hca hcb) (by repeat' (first | exact trivial | exact Lent.refl _ | exact Lent.norm _ | apply And.intro)) rfl ⟨rfl, rfl, rfl, rfl, rfl, by repeat' (first | exact trivial | rfl | apply And.intro), rfl, rfl⟩, ?_⟩; conv => whnf)
  repeat (first | refine W.seq ?_ | (refine W.reg env hN (by kernel_rfl) ?_; conv => whnf) | refine W.condT rfl ?_ | refine W.condF rfl ?_ | (refine W.skip ?_; conv => whnf) | (refine W.exit ?_; conv => whnf) | refine W.block ?_ | (refine fun (hlen : (_ : Nat) ≤ _) => ?_; conv => whnf) | (refine okFp_intro (by kernel_rfl) ?_; conv => whnf) | (refine And.intro rfl ?_; conv => whnf) | (refine And.intro (by omega) ?_; conv => whnf) | (refine rowAt_of rfl ?_; conv => whnf) | (refine boolRes_true (by omega) ?_; conv => whnf) | (refine boolRes_false (by omega) ?_; conv => whnf) | (refine boolRes_true rfl ?_; conv => whnf))
  have e2 : (((runRows s.runs).length : Nat) : Int).toNat - (2 : Int).toNat = r.length := by omega
  have e3 : (runRows (r ++ [merged a b])).length = r.length + 1 := by rw [runRows_len]; simp
  refine ⟨⟨rfl, rfl⟩, fits24 (n := (((runRows s.runs).length : Nat) : Int).toNat - (2 : Int).toNat + 1) (by omega), .inr ⟨rfl, ?_⟩⟩
  conv => whnf
  repeat (first | refine W.seq ?_ | (refine W.reg env hN (by kernel_rfl) ?_; conv => whnf) | refine W.condT rfl ?_ | refine W.condF rfl ?_ | (refine W.skip ?_; conv => whnf) | (refine W.exit ?_; conv => whnf) | refine W.block ?_ | (refine fun (hlen : (_ : Nat) ≤ _) => ?_; conv => whnf) | (refine okFp_intro (by kernel_rfl) ?_; conv => whnf) | (refine And.intro rfl ?_; conv => whnf) | (refine And.intro (by omega) ?_; conv => whnf) | (refine rowAt_of rfl ?_; conv => whnf) | (refine boolRes_true (by omega) ?_; conv => whnf) | (refine boolRes_false (by omega) ?_; conv => whnf) | (refine boolRes_true rfl ?_; conv => whnf))
  exact retHn rfl (.refl _) rfl rfl rfl ⟨(by
      show [Blk.rows 5 [[.int .i64 s.mem, .nils, .osl 24 0 0 ((((runRows s.runs).length : Nat) : Int).toNat - (2 : Int).toNat + 1) ((((runRows s.runs).length : Nat) : Int).toNat - (2 : Int).toNat + 1), .int .i64 (max s.peak 2), .int .i64 (s.written + (countRows (merged a b)).length)]] none] = _
      simp only [Spill.ownNil, e2, e3, hcm]), rfl, rfl, rfl, (by
      show [Blk.rows 1 (List.take ((((runRows s.runs).length : Nat) : Int).toNat - (2 : Int).toNat) (List.drop (0 + (2 : Int).toNat) (runRows s.runs)) ++ [[.sl (countRows (merged a b)) false]]) (some [])] = _
      rw [e2, show 0 + (2 : Int).toNat = 2 from rfl, hd, List.take_of_length_le (by rw [runRows_len]; omega), runRows_append]
      rfl), rfl, trivial⟩
set_option maxHeartbeats 2000000 in
theorem mergeOwn_spec (s : Spill) (a b : List Count) (r : List (List Count)) (he : s.runs = a :: b :: r) (hla : a.length ≤ 4294967296) (hlb : b.length ≤ 4294967296) (hlr : r.length ≤ 4294967296) (hca : Counts a) (hcb : Counts b) (hw : 0 ≤ s.written ∧ s.written ≤ 2305843009213693952) :
    Spec Try.prog 41 [.bp 0 0] s.hin (.tup []) [(0, s.merge.own 1 24), (1, .rows 2 (countRows s.merge.buf) (some [])), (2, .gone), (24, .rows 1 (runRows s.merge.runs) (some []))] := by
  have hm : s.merge = { s with runs := r ++ [merged a b], written := s.written + (merged a b).length, peak := max s.peak 2 } := by simp only [Spill.merge, he]
  rw [hm]
  have hml := merged_len a b
  have hcm := countRows_len (merged a b)
  have hn : (runRows s.runs).length = r.length + 2 := by rw [runRows_len, he]; rfl
  have h0 : (runRows s.runs)[0]? = some [.sl (countRows a) false] := by rw [he]; rfl
  have h1 : (runRows s.runs)[1]? = some [.sl (countRows b) false] := by rw [he]; rfl
  have hd : (runRows s.runs).drop 2 = runRows r := by rw [he]; rfl
  refine Spec.body env Try.func41 rfl (by kernel_rfl) (Nat.le_of_ble_eq_true (by kernel_rfl)) (keysSub rfl) fun Γ hN hK => ?_; have hML : maxLen = 9223372036854775807 := by unfold maxLen; rfl
  repeat (first | refine W.seq ?_ | (refine W.reg env hN (by kernel_rfl) ?_; conv => whnf) | refine W.condT rfl ?_ | refine W.condF rfl ?_ | (refine W.skip ?_; conv => whnf) | (refine W.exit ?_; conv => whnf) | refine W.block ?_ | (refine fun (hlen : (_ : Nat) ≤ _) => ?_; conv => whnf) | (refine okFp_intro (by kernel_rfl) ?_; conv => whnf) | (refine And.intro rfl ?_; conv => whnf) | (refine And.intro (by omega) ?_; conv => whnf) | (refine rowAt_of rfl ?_; conv => whnf) | (refine boolRes_true (by omega) ?_; conv => whnf) | (refine boolRes_false (by omega) ?_; conv => whnf) | (refine boolRes_true rfl ?_; conv => whnf))
  refine rowAt_of h0 ?_
  conv => whnf
  repeat (first | refine W.seq ?_ | (refine W.reg env hN (by kernel_rfl) ?_; conv => whnf) | refine W.condT rfl ?_ | refine W.condF rfl ?_ | (refine W.skip ?_; conv => whnf) | (refine W.exit ?_; conv => whnf) | refine W.block ?_ | (refine fun (hlen : (_ : Nat) ≤ _) => ?_; conv => whnf) | (refine okFp_intro (by kernel_rfl) ?_; conv => whnf) | (refine And.intro rfl ?_; conv => whnf) | (refine And.intro (by omega) ?_; conv => whnf) | (refine rowAt_of rfl ?_; conv => whnf) | (refine boolRes_true (by omega) ?_; conv => whnf) | (refine boolRes_false (by omega) ?_; conv => whnf) | (refine boolRes_true rfl ?_; conv => whnf))
  refine rowAt_of h1 ?_
  conv => whnf
  repeat (first | refine W.seq ?_ | (refine W.reg env hN (by kernel_rfl) ?_; conv => whnf) | refine W.condT rfl ?_ | refine W.condF rfl ?_ | (refine W.skip ?_; conv => whnf) | (refine W.exit ?_; conv => whnf) | refine W.block ?_ | (refine fun (hlen : (_ : Nat) ≤ _) => ?_; conv => whnf) | (refine okFp_intro (by kernel_rfl) ?_; conv => whnf) | (refine And.intro rfl ?_; conv => whnf) | (refine And.intro (by omega) ?_; conv => whnf) | (refine rowAt_of rfl ?_; conv => whnf) | (refine boolRes_true (by omega) ?_; conv => whnf) | (refine boolRes_false (by omega) ?_; conv => whnf) | (refine boolRes_true rfl ?_; conv => whnf))
  (refine ⟨_, _, _, callG [] [] [] rfl rfl rfl (by kernel_rfl) (merged_spec a b hla hlb hca hcb) (by repeat' (first | exact trivial | exact Lent.refl _ | exact Lent.norm _ | apply And.intro)) rfl ⟨rfl, rfl, rfl, rfl, rfl, by repeat' (first | exact trivial | rfl | apply And.intro), rfl, rfl⟩, ?_⟩; conv => whnf)
  repeat (first | refine W.seq ?_ | (refine W.reg env hN (by kernel_rfl) ?_; conv => whnf) | refine W.condT rfl ?_ | refine W.condF rfl ?_ | (refine W.skip ?_; conv => whnf) | (refine W.exit ?_; conv => whnf) | refine W.block ?_ | (refine fun (hlen : (_ : Nat) ≤ _) => ?_; conv => whnf) | (refine okFp_intro (by kernel_rfl) ?_; conv => whnf) | (refine And.intro rfl ?_; conv => whnf) | (refine And.intro (by omega) ?_; conv => whnf) | (refine rowAt_of rfl ?_; conv => whnf) | (refine boolRes_true (by omega) ?_; conv => whnf) | (refine boolRes_false (by omega) ?_; conv => whnf) | (refine boolRes_true rfl ?_; conv => whnf))
  have e2 : (((runRows s.runs).length : Nat) : Int).toNat - (2 : Int).toNat = r.length := by omega
  have e3 : (runRows (r ++ [merged a b])).length = r.length + 1 := by rw [runRows_len]; simp
  refine ⟨⟨rfl, rfl⟩, fits24 (n := (((runRows s.runs).length : Nat) : Int).toNat - (2 : Int).toNat + 1) (by omega), .inr ⟨rfl, ?_⟩⟩
  conv => whnf
  repeat (first | refine W.seq ?_ | (refine W.reg env hN (by kernel_rfl) ?_; conv => whnf) | refine W.condT rfl ?_ | refine W.condF rfl ?_ | (refine W.skip ?_; conv => whnf) | (refine W.exit ?_; conv => whnf) | refine W.block ?_ | (refine fun (hlen : (_ : Nat) ≤ _) => ?_; conv => whnf) | (refine okFp_intro (by kernel_rfl) ?_; conv => whnf) | (refine And.intro rfl ?_; conv => whnf) | (refine And.intro (by omega) ?_; conv => whnf) | (refine rowAt_of rfl ?_; conv => whnf) | (refine boolRes_true (by omega) ?_; conv => whnf) | (refine boolRes_false (by omega) ?_; conv => whnf) | (refine boolRes_true rfl ?_; conv => whnf))
  exact retHn rfl (.refl _) rfl rfl rfl ⟨(by
      show [Blk.rows 5 [[.int .i64 s.mem, .osl 1 0 0 (countRows s.buf).length (countRows s.buf).length, .osl 24 0 0 ((((runRows s.runs).length : Nat) : Int).toNat - (2 : Int).toNat + 1) ((((runRows s.runs).length : Nat) : Int).toNat - (2 : Int).toNat + 1), .int .i64 (max s.peak 2), .int .i64 (s.written + (countRows (merged a b)).length)]] none] = _
      simp only [Spill.own, e2, e3, hcm]), rfl, rfl, rfl, rfl, rfl, (by
      show [Blk.rows 1 (List.take ((((runRows s.runs).length : Nat) : Int).toNat - (2 : Int).toNat) (List.drop (0 + (2 : Int).toNat) (runRows s.runs)) ++ [[.sl (countRows (merged a b)) false]]) (some [])] = _
      rw [e2, show 0 + (2 : Int).toNat = 2 from rfl, hd, List.take_of_length_le (by rw [runRows_len]; omega), runRows_append]
      rfl), rfl, trivial⟩
end Go.Sx.Sp
namespace Go.Sx.Sp
open Go Go.Sx Go.Proofs
attribute [local irreducible] GoodW
def total (l : List Count) : Int := (l.map fun c => c.count).sum
def NonNeg (l : List Count) : Prop := ∀ c ∈ l, 0 ≤ c.count
theorem total_cons (c : Count) (l : List Count) : total (c :: l) = c.count + total l := by simp [total]
theorem total_append (a b : List Count) : total (a ++ b) = total a + total b := by simp [total]
theorem total_nonneg : ∀ {l : List Count}, NonNeg l → 0 ≤ total l
  | [], _ => by simp [total]
  | c :: l, h => by
    rw [total_cons]
    have h1 := h c (by simp)
    have h2 := total_nonneg (l := l) fun x hx => h x (List.mem_cons_of_mem _ hx)
    omega
theorem count_le_total : ∀ {l : List Count}, NonNeg l → ∀ c ∈ l, c.count ≤ total l
  | d :: l, h, c, hc => by
    have h2 := total_nonneg (l := l) fun x hx => h x (List.mem_cons_of_mem _ hx)
    rw [total_cons]
    rcases List.mem_cons.1 hc with e | e
    · subst e; omega
    · have := count_le_total (l := l) (fun x hx => h x (List.mem_cons_of_mem _ hx)) c e
      have := h d (by simp)
      omega
theorem total_merged : ∀ (a b : List Count), total (merged a b) = total a + total b
  | [], b => by rw [merged_nil_left]; simp [total]
  | x :: a, [] => by rw [merged_nil_right]; simp [total]
  | x :: a, y :: b => by
    rw [merged_cons]
    split
    · rw [total_cons, total_merged a (y :: b), total_cons, total_cons]; omega
    · split
      · rw [total_cons, total_merged a b, total_cons, total_cons]; simp only; omega
      · rw [total_cons, total_merged (x :: a) b, total_cons, total_cons]; omega
termination_by a b => a.length + b.length
theorem nonneg_merged : ∀ {a b : List Count}, NonNeg a → NonNeg b → NonNeg (merged a b)
  | [], b, _, hb => by rw [merged_nil_left]; exact hb
  | x :: a, [], ha, _ => by rw [merged_nil_right]; exact ha
  | x :: a, y :: b, ha, hb => by
    have ha' : NonNeg a := fun c hc => ha c (List.mem_cons_of_mem _ hc)
    have hb' : NonNeg b := fun c hc => hb c (List.mem_cons_of_mem _ hc)
    rw [merged_cons]
    intro c hc
    split at hc
    · rcases List.mem_cons.1 hc with e | e
      · subst e; exact ha _ (by simp)
      · exact nonneg_merged ha' hb c e
    · split at hc
      · rcases List.mem_cons.1 hc with e | e
        · subst e
          have := ha x (by simp)
          have := hb y (by simp)
          simp only; omega
        · exact nonneg_merged ha' hb' c e
      · rcases List.mem_cons.1 hc with e | e
        · subst e; exact hb _ (by simp)
        · exact nonneg_merged ha hb' c e
termination_by a b => a.length + b.length
def sumLen (l : List (List Count)) : Nat := (l.map List.length).sum
def sumTotal (l : List (List Count)) : Int := (l.map total).sum
structure Spill.Lim (s : Spill) (L : Nat) : Prop where
  small : L ≤ 4294967296
  runs : s.runs.length ≤ 4294967296
  len : sumLen s.runs ≤ L
  nonneg : ∀ r ∈ s.runs, NonNeg r
  sum : sumTotal s.runs ≤ 2305843009213693952
  written : 0 ≤ s.written ∧ s.written + (s.runs.length * L : Nat) ≤ 2305843009213693952
theorem sumTotal_nonneg : ∀ {l : List (List Count)}, (∀ r ∈ l, NonNeg r) → 0 ≤ sumTotal l
  | [], _ => by simp [sumTotal]
  | r :: l, h => by
    have h1 := total_nonneg (h r (by simp))
    have h2 := sumTotal_nonneg (l := l) fun x hx => h x (List.mem_cons_of_mem _ hx)
    simp only [sumTotal, List.map_cons, List.sum_cons] at *
    omega
theorem Lim.two {s : Spill} {L : Nat} (h : s.Lim L) {a b : List Count} {r : List (List Count)} (he : s.runs = a :: b :: r) : a.length ≤ 4294967296 ∧ b.length ≤ 4294967296 ∧ r.length ≤ 4294967296 ∧ Counts a ∧ Counts b ∧ (0 ≤ s.written ∧ s.written ≤ 2305843009213693952) ∧ s.merge.Lim L := by
  obtain ⟨h1, h2, h3, h4, h5, h6, h7⟩ := h
  have hm : s.merge = { s with runs := r ++ [merged a b], written := s.written + (merged a b).length, peak := max s.peak 2 } := by simp only [Spill.merge, he]
  have hml := merged_len a b
  rw [he] at h2 h3 h4 h5 h7
  have hna : NonNeg a := h4 a (by simp)
  have hnb : NonNeg b := h4 b (by simp)
  have hnr : ∀ x ∈ r, NonNeg x := fun x hx => h4 x (by simp [hx])
  have hta := total_nonneg hna
  have htb := total_nonneg hnb
  have htr := sumTotal_nonneg hnr
  simp only [sumLen, sumTotal, List.map_cons, List.sum_cons, List.length_cons] at h2 h3 h5 htr
  have hmul : ((a :: b :: r).length * L : Nat) = (r.length + 1) * L + L := by
    simp only [List.length_cons]
    rw [Nat.add_mul (r.length + 1) 1, Nat.one_mul]
  rw [hmul] at h7
  refine ⟨by omega, by omega, by omega, fun c hc => ⟨hna c hc, ?_⟩, fun c hc => ⟨hnb c hc, ?_⟩, ⟨h6, by omega⟩, ?_⟩
  · have := count_le_total hna c hc; omega
  · have := count_le_total hnb c hc; omega
  · rw [hm]
    refine ⟨h1, by simp; omega, ?_, ?_, ?_, ?_, ?_⟩
    · simp only [sumLen, List.map_append, List.sum_append, List.map_cons, List.map_nil, List.sum_cons, List.sum_nil]; omega
    · intro x hx
      rcases List.mem_append.1 hx with hx | hx
      · exact hnr x hx
      · simp at hx; subst hx; exact nonneg_merged hna hnb
    · simp only [sumTotal, List.map_append, List.sum_append, List.map_cons, List.map_nil, List.sum_cons, List.sum_nil, total_merged]; omega
    · simp only; omega
    · simp only [List.length_append, List.length_singleton]; omega
def mergeAll : Nat → Spill → Spill
  | 0, s => s
  | n + 1, s => match s.runs with
    | _ :: _ :: _ => mergeAll n s.merge
    | _ => s
theorem mergeAll_short (n : Nat) {s : Spill} (h : s.runs.length ≤ 1) : mergeAll n s = s := by
  cases n with
  | zero => rfl
  | succ n =>
    simp only [mergeAll]
    split
    · rename_i he; rw [he] at h; simp at h
    · rfl
theorem mergeAll_step {n : Nat} {s : Spill} {a b : List Count} {r : List (List Count)} (he : s.runs = a :: b :: r) : mergeAll (n + 1) s = mergeAll n s.merge := by
  simp only [mergeAll, he]
theorem merge_runs {s : Spill} {a b : List Count} {r : List (List Count)} (he : s.runs = a :: b :: r) : s.merge.runs = r ++ [merged a b] := by simp only [Spill.merge, he]
def Spill.fin (s : Spill) : Spill := mergeAll s.flush.runs.length s.flush
def Spill.out (s : Spill) : List Count := match s.fin.runs with | [] => [] | r :: _ => r
set_option maxHeartbeats 2000000 in
theorem finish_spec (s : Spill) (L : Nat) (hs : s.Small) (hw : 0 ≤ s.written ∧ s.written ≤ 2305843009213693952) (hl : s.flush.Lim L) :
    Spec Try.prog 39 [.bp 0 0] s.hin (.sl (countRows s.out) false) [(0, s.fin.ownNil 50), (1, .gone), (2, .gone), (50, .rows 1 (runRows s.fin.runs) (some []))] := by
  refine Spec.body env Try.func39 rfl (by kernel_rfl) (Nat.le_of_ble_eq_true (by kernel_rfl)) (keysSub rfl) fun Γ hN hK => ?_; have hML : maxLen = 9223372036854775807 := by unfold maxLen; rfl
  repeat (first | refine W.seq ?_ | (refine W.reg env hN (by kernel_rfl) ?_; conv => whnf) | refine W.condT rfl ?_ | refine W.condF rfl ?_ | (refine W.skip ?_; conv => whnf) | (refine W.exit ?_; conv => whnf) | refine W.block ?_ | (refine fun (hlen : (_ : Nat) ≤ _) => ?_; conv => whnf) | (refine okFp_intro (by kernel_rfl) ?_; conv => whnf) | (refine And.intro rfl ?_; conv => whnf) | (refine And.intro (by omega) ?_; conv => whnf) | (refine rowAt_of rfl ?_; conv => whnf) | (refine boolRes_true (by omega) ?_; conv => whnf) | (refine boolRes_false (by omega) ?_; conv => whnf) | (refine boolRes_true rfl ?_; conv => whnf))
  (refine ⟨_, _, _, callG [(0, 0), (1, 1), (2, 2)] [] [] rfl rfl rfl (by kernel_rfl) (flush_spec s hs hw) (by repeat' (first | exact trivial | exact Lent.refl _ | exact Lent.norm _ | apply And.intro)) rfl ⟨rfl, rfl, rfl, rfl, rfl, by repeat' (first | exact trivial | rfl | apply And.intro), rfl, rfl⟩, ?_⟩; conv => whnf)
  repeat (first | refine W.seq ?_ | (refine W.reg env hN (by kernel_rfl) ?_; conv => whnf) | (refine W.skip ?_; conv => whnf) | (refine W.exit ?_; conv => whnf) | refine W.block ?_ | (refine fun (hlen : (_ : Nat) ≤ _) => ?_; conv => whnf) | (refine okFp_intro (by kernel_rfl) ?_; conv => whnf) | (refine And.intro rfl ?_; conv => whnf) | (refine And.intro (by omega) ?_; conv => whnf) | (refine rowAt_of rfl ?_; conv => whnf) | (refine boolRes_true (by omega) ?_; conv => whnf) | (refine boolRes_false (by omega) ?_; conv => whnf) | (refine boolRes_true rfl ?_; conv => whnf))
  refine W.loopG (fun n st => ∃ c : Spill, mergeAll c.runs.length c = s.fin ∧ c.Lim L ∧ n = c.runs.length ∧ st = ⟨[(0, .bp 0 0)], [(0, [c.ownNil 50]), (1, [.gone]), (2, [.gone]), (50, [.rows 1 (runRows c.runs) (some [])])], [0, 1, 2, 50]⟩)
    s.flush.runs.length _ ⟨s.flush, rfl, hl, rfl, rfl⟩ ⟨[(0, 0), (1, 1), (2, 50)], [], [2], LeG.mkG rfl rfl rfl ⟨⟨_, .refl _, rfl⟩, trivial⟩ (.cons 0 rfl rfl (.refl _) rfl (.gone 1 rfl rfl rfl (.old 2 rfl rfl rfl (.cons 2 rfl rfl (.refl _) rfl .nil)))) rfl rfl rfl (by rw [hK]; rfl)⟩ ?_
  rintro n st ⟨c, hc, hlim, rfl, rfl⟩
  have hrl := runRows_len c.runs
  repeat (first | refine W.seq ?_ | (refine W.reg env hN (by kernel_rfl) ?_; conv => whnf) | refine W.condT rfl ?_ | refine W.condF rfl ?_ | (refine W.skip ?_; conv => whnf) | (refine W.exit ?_; conv => whnf) | refine W.block ?_ | (refine fun (hlen : (_ : Nat) ≤ _) => ?_; conv => whnf) | (refine okFp_intro (by kernel_rfl) ?_; conv => whnf) | (refine And.intro rfl ?_; conv => whnf) | (refine And.intro (by omega) ?_; conv => whnf) | (refine rowAt_of rfl ?_; conv => whnf) | (refine boolRes_true (by omega) ?_; conv => whnf) | (refine boolRes_false (by omega) ?_; conv => whnf) | (refine boolRes_true rfl ?_; conv => whnf))
  refine boolRes_split (fun hb => ?_) (fun hb => ?_) <;> conv => whnf
  · have h2 : 1 < c.runs.length := by omega
    obtain ⟨a, b, r, he⟩ : ∃ a b r, c.runs = a :: b :: r := by
      rcases hq : c.runs with _ | ⟨a, _ | ⟨b, r⟩⟩
      · rw [hq] at h2; simp at h2
      · rw [hq] at h2; simp at h2
      · exact ⟨a, b, r, rfl⟩
    obtain ⟨g1, g2, g3, g4, g5, g6, g7⟩ := Lim.two hlim he
    repeat (first | refine W.seq ?_ | (refine W.reg env hN (by kernel_rfl) ?_; conv => whnf) | refine W.condT rfl ?_ | refine W.condF rfl ?_ | (refine W.skip ?_; conv => whnf) | (refine W.exit ?_; conv => whnf) | refine W.block ?_ | (refine fun (hlen : (_ : Nat) ≤ _) => ?_; conv => whnf) | (refine okFp_intro (by kernel_rfl) ?_; conv => whnf) | (refine And.intro rfl ?_; conv => whnf) | (refine And.intro (by omega) ?_; conv => whnf) | (refine rowAt_of rfl ?_; conv => whnf) | (refine boolRes_true (by omega) ?_; conv => whnf) | (refine boolRes_false (by omega) ?_; conv => whnf) | (refine boolRes_true rfl ?_; conv => whnf))
    (refine ⟨_, _, _, callG [(0, 0), (2, 50)] [(24, 60)] [] rfl rfl rfl (by kernel_rfl) (mergeNil_spec c a b r he g1 g2 g3 g4 g5 g6) (by repeat' (first | exact trivial | exact Lent.refl _ | exact Lent.norm _ | apply And.intro)) rfl ⟨rfl, rfl, rfl, rfl, rfl, by repeat' (first | exact trivial | rfl | apply And.intro), rfl, rfl⟩, ?_⟩; conv => whnf)
    repeat (first | refine W.seq ?_ | (refine W.reg env hN (by kernel_rfl) ?_; conv => whnf) | refine W.condT rfl ?_ | refine W.condF rfl ?_ | (refine W.skip ?_; conv => whnf) | (refine W.exit ?_; conv => whnf) | refine W.block ?_ | (refine fun (hlen : (_ : Nat) ≤ _) => ?_; conv => whnf) | (refine okFp_intro (by kernel_rfl) ?_; conv => whnf) | (refine And.intro rfl ?_; conv => whnf) | (refine And.intro (by omega) ?_; conv => whnf) | (refine rowAt_of rfl ?_; conv => whnf) | (refine boolRes_true (by omega) ?_; conv => whnf) | (refine boolRes_false (by omega) ?_; conv => whnf) | (refine boolRes_true rfl ?_; conv => whnf))
    refine ⟨_, _, ?_, ⟨c.merge, ?_, g7, rfl, rfl⟩, [(0, 0), (1, 1), (2, 2), (60, 50)], [], [], LeG.mk' rfl rfl rfl ⟨⟨_, .refl _, rfl⟩, trivial⟩ (.cons 0 rfl rfl (.refl _) rfl (.gone 1 rfl rfl rfl (.gone 2 rfl rfl rfl (.cons 60 rfl rfl (.refl _) rfl .nil)))) rfl rfl (by rw [hK]; rfl)⟩
    · rw [merge_runs he, he]; simp
    · rw [merge_runs he, ← hc, he]
      simp only [List.length_append, List.length_cons, List.length_nil, Nat.zero_add]
      rw [mergeAll_step he]
  · have hsh : c.runs.length ≤ 1 := by omega
    rw [mergeAll_short _ hsh] at hc
    subst hc
    repeat (first | refine W.seq ?_ | (refine W.reg env hN (by kernel_rfl) ?_; conv => whnf) | refine W.condT rfl ?_ | refine W.condF rfl ?_ | (refine W.skip ?_; conv => whnf) | (refine W.exit ?_; conv => whnf) | refine W.block ?_ | (refine fun (hlen : (_ : Nat) ≤ _) => ?_; conv => whnf) | (refine okFp_intro (by kernel_rfl) ?_; conv => whnf) | (refine And.intro rfl ?_; conv => whnf) | (refine And.intro (by omega) ?_; conv => whnf) | (refine rowAt_of rfl ?_; conv => whnf) | (refine boolRes_true (by omega) ?_; conv => whnf) | (refine boolRes_false (by omega) ?_; conv => whnf) | (refine boolRes_true rfl ?_; conv => whnf))
    have hq : s.fin.runs = [] ∨ ∃ r0 rest, s.fin.runs = r0 :: rest := by cases s.fin.runs <;> simp
    rcases hq with hq | ⟨r0, rest, hq⟩
    · have h0 : (runRows s.fin.runs).length = 0 := by rw [hrl, hq]; rfl
      have ho : s.out = [] := by simp only [Spill.out, hq]
      repeat (first | refine W.seq ?_ | (refine W.reg env hN (by kernel_rfl) ?_; conv => whnf) | refine W.condT rfl ?_ | refine W.condF rfl ?_ | (refine W.skip ?_; conv => whnf) | (refine W.exit ?_; conv => whnf) | refine W.block ?_ | (refine fun (hlen : (_ : Nat) ≤ _) => ?_; conv => whnf) | (refine okFp_intro (by kernel_rfl) ?_; conv => whnf) | (refine And.intro rfl ?_; conv => whnf) | (refine And.intro (by omega) ?_; conv => whnf) | (refine rowAt_of rfl ?_; conv => whnf) | (refine boolRes_true (by omega) ?_; conv => whnf) | (refine boolRes_false (by omega) ?_; conv => whnf) | (refine boolRes_true rfl ?_; conv => whnf))
      (refine W.ret ?_; conv => whnf)
      exact retH rfl (by rw [ho]; exact .norm _) rfl rfl rfl ⟨rfl, rfl, rfl, rfl, rfl, rfl, rfl, rfl, trivial⟩
    · have h0 : (runRows s.fin.runs).length = rest.length + 1 := by rw [hrl, hq]; rfl
      have ho : s.out = r0 := by simp only [Spill.out, hq]
      have hx : (runRows s.fin.runs)[0]? = some [.sl (countRows r0) false] := by rw [hq]; rfl
      have hr0 : r0.length ≤ 4294967296 := by
        have h1 := hlim.len
        have h2 := hlim.small
        rw [hq] at h1
        simp only [sumLen, List.map_cons, List.sum_cons] at h1
        omega
      repeat (first | refine W.seq ?_ | (refine W.reg env hN (by kernel_rfl) ?_; conv => whnf) | refine W.condT rfl ?_ | refine W.condF rfl ?_ | (refine W.skip ?_; conv => whnf) | (refine W.exit ?_; conv => whnf) | refine W.block ?_ | (refine fun (hlen : (_ : Nat) ≤ _) => ?_; conv => whnf) | (refine okFp_intro (by kernel_rfl) ?_; conv => whnf) | (refine And.intro rfl ?_; conv => whnf) | (refine And.intro (by omega) ?_; conv => whnf) | (refine rowAt_of rfl ?_; conv => whnf) | (refine boolRes_true (by omega) ?_; conv => whnf) | (refine boolRes_false (by omega) ?_; conv => whnf) | (refine boolRes_true rfl ?_; conv => whnf))
      refine rowAt_of hx ?_
      conv => whnf
      repeat (first | refine W.seq ?_ | (refine W.reg env hN (by kernel_rfl) ?_; conv => whnf) | refine W.condT rfl ?_ | refine W.condF rfl ?_ | (refine W.skip ?_; conv => whnf) | (refine W.exit ?_; conv => whnf) | refine W.block ?_ | (refine fun (hlen : (_ : Nat) ≤ _) => ?_; conv => whnf) | (refine okFp_intro (by kernel_rfl) ?_; conv => whnf) | (refine And.intro rfl ?_; conv => whnf) | (refine And.intro (by omega) ?_; conv => whnf) | (refine rowAt_of rfl ?_; conv => whnf) | (refine boolRes_true (by omega) ?_; conv => whnf) | (refine boolRes_false (by omega) ?_; conv => whnf) | (refine boolRes_true rfl ?_; conv => whnf))
      (refine ⟨_, _, _, callG [] [] [] rfl rfl rfl (by kernel_rfl) (clone_data (countRows r0) (countRows_sz _) (fits24 (by rw [countRows_len]; omega))) (by repeat' (first | exact trivial | exact Lent.refl _ | exact Lent.norm _ | apply And.intro)) rfl ⟨rfl, rfl, rfl, rfl, rfl, by repeat' (first | exact trivial | rfl | apply And.intro), rfl, rfl⟩, ?_⟩; conv => whnf)
      repeat (first | refine W.seq ?_ | (refine W.reg env hN (by kernel_rfl) ?_; conv => whnf) | refine W.condT rfl ?_ | refine W.condF rfl ?_ | (refine W.skip ?_; conv => whnf) | (refine W.exit ?_; conv => whnf) | refine W.block ?_ | (refine fun (hlen : (_ : Nat) ≤ _) => ?_; conv => whnf) | (refine okFp_intro (by kernel_rfl) ?_; conv => whnf) | (refine And.intro rfl ?_; conv => whnf) | (refine And.intro (by omega) ?_; conv => whnf) | (refine rowAt_of rfl ?_; conv => whnf) | (refine boolRes_true (by omega) ?_; conv => whnf) | (refine boolRes_false (by omega) ?_; conv => whnf) | (refine boolRes_true rfl ?_; conv => whnf))
      (refine W.ret ?_; conv => whnf)
      exact retH rfl (by rw [ho]; exact .refl _) rfl rfl rfl ⟨rfl, rfl, rfl, rfl, rfl, rfl, rfl, rfl, trivial⟩
end Go.Sx.Sp
namespace Go.Sx.Sp
open Go Go.Sx Go.Proofs
attribute [local irreducible] GoodW
def badRun (l : List Count) : Bool := decide (l.length = 0) || !isRun l
def ixFrom : List (List Count) → Nat → Int
  | [], _ => -1
  | r :: rs, k => if badRun r = true then k else ixFrom rs (k + 1)
theorem ixFrom_nonneg : ∀ (rs : List (List Count)) (k : Nat), 0 ≤ ixFrom rs k ↔ rs.any badRun = true
  | [], k => by simp [ixFrom]
  | r :: rs, k => by
    simp only [ixFrom, List.any_cons]
    by_cases h : badRun r = true
    · simp [h]
    · simp [h, ixFrom_nonneg rs (k + 1)]
def Spill.valid (s : Spill) : Bool := fits s.mem && isRun s.buf && decide ((s.buf.length : Int) ≤ s.peak) && decide (s.peak ≤ s.mem) && decide (0 ≤ s.written) && !s.runs.any badRun
set_option maxHeartbeats 2000000 in
theorem bad_spec (l : List Count) : Spec Try.prog 48 [.sl (countRows l) false] [] (.bool (badRun l)) [] := by
  have hcl := countRows_len l
  have sp : Spec Try.prog 46 [.sl (countRows l) false] [] (.bool (isRun l)) [] := run_spec l
  refine Spec.body env Try.func48 rfl (by kernel_rfl) (Nat.le_of_ble_eq_true (by kernel_rfl)) (keysSub rfl) fun Γ hN hK => ?_; have hML : maxLen = 9223372036854775807 := by unfold maxLen; rfl
  repeat (first | refine W.seq ?_ | (refine W.reg env hN (by kernel_rfl) ?_; conv => whnf) | refine W.condT rfl ?_ | refine W.condF rfl ?_ | (refine W.skip ?_; conv => whnf) | (refine W.exit ?_; conv => whnf) | refine W.block ?_ | (refine fun (hlen : (_ : Nat) ≤ _) => ?_; conv => whnf) | (refine okFp_intro (by kernel_rfl) ?_; conv => whnf) | (refine And.intro rfl ?_; conv => whnf) | (refine And.intro (by omega) ?_; conv => whnf) | (refine rowAt_of rfl ?_; conv => whnf) | (refine boolRes_true (by omega) ?_; conv => whnf) | (refine boolRes_false (by omega) ?_; conv => whnf) | (refine boolRes_true rfl ?_; conv => whnf))
  refine boolRes_split (fun hb => ?_) (fun hb => ?_) <;> conv => whnf
  · have hz : l.length = 0 := by omega
    repeat (first | refine W.seq ?_ | (refine W.reg env hN (by kernel_rfl) ?_; conv => whnf) | refine W.condT rfl ?_ | refine W.condF rfl ?_ | (refine W.skip ?_; conv => whnf) | (refine W.exit ?_; conv => whnf) | refine W.block ?_ | (refine fun (hlen : (_ : Nat) ≤ _) => ?_; conv => whnf) | (refine okFp_intro (by kernel_rfl) ?_; conv => whnf) | (refine And.intro rfl ?_; conv => whnf) | (refine And.intro (by omega) ?_; conv => whnf) | (refine rowAt_of rfl ?_; conv => whnf) | (refine boolRes_true (by omega) ?_; conv => whnf) | (refine boolRes_false (by omega) ?_; conv => whnf) | (refine boolRes_true rfl ?_; conv => whnf) | (refine W.ret ?_; conv => whnf))
    exact ret0 rfl (congrArg V.bool (by simp [badRun, hz])) rfl
  · have hz : l.length ≠ 0 := by omega
    cases hr : isRun l with
    | true =>
      rw [hr] at sp
      repeat (first | refine W.seq ?_ | (refine W.reg env hN (by kernel_rfl) ?_; conv => whnf) | refine W.condT rfl ?_ | refine W.condF rfl ?_ | (refine W.skip ?_; conv => whnf) | (refine W.exit ?_; conv => whnf) | refine W.block ?_ | (refine fun (hlen : (_ : Nat) ≤ _) => ?_; conv => whnf) | (refine okFp_intro (by kernel_rfl) ?_; conv => whnf) | (refine And.intro rfl ?_; conv => whnf) | (refine And.intro (by omega) ?_; conv => whnf) | (refine rowAt_of rfl ?_; conv => whnf) | (refine boolRes_true (by omega) ?_; conv => whnf) | (refine boolRes_false (by omega) ?_; conv => whnf) | (refine boolRes_true rfl ?_; conv => whnf))
      (refine ⟨_, _, _, callG [] [] [] rfl rfl rfl (by kernel_rfl) (sp) (by repeat' (first | exact trivial | exact Lent.refl _ | exact Lent.norm _ | apply And.intro)) rfl ⟨rfl, rfl, rfl, rfl, rfl, by repeat' (first | exact trivial | rfl | apply And.intro), rfl, rfl⟩, ?_⟩; conv => whnf)
      repeat (first | refine W.seq ?_ | (refine W.reg env hN (by kernel_rfl) ?_; conv => whnf) | refine W.condT rfl ?_ | refine W.condF rfl ?_ | (refine W.skip ?_; conv => whnf) | (refine W.exit ?_; conv => whnf) | refine W.block ?_ | (refine fun (hlen : (_ : Nat) ≤ _) => ?_; conv => whnf) | (refine okFp_intro (by kernel_rfl) ?_; conv => whnf) | (refine And.intro rfl ?_; conv => whnf) | (refine And.intro (by omega) ?_; conv => whnf) | (refine rowAt_of rfl ?_; conv => whnf) | (refine boolRes_true (by omega) ?_; conv => whnf) | (refine boolRes_false (by omega) ?_; conv => whnf) | (refine boolRes_true rfl ?_; conv => whnf) | (refine W.ret ?_; conv => whnf))
      exact ret0 rfl (congrArg V.bool (by simp [badRun, hr, hz])) rfl
    | false =>
      rw [hr] at sp
      repeat (first | refine W.seq ?_ | (refine W.reg env hN (by kernel_rfl) ?_; conv => whnf) | refine W.condT rfl ?_ | refine W.condF rfl ?_ | (refine W.skip ?_; conv => whnf) | (refine W.exit ?_; conv => whnf) | refine W.block ?_ | (refine fun (hlen : (_ : Nat) ≤ _) => ?_; conv => whnf) | (refine okFp_intro (by kernel_rfl) ?_; conv => whnf) | (refine And.intro rfl ?_; conv => whnf) | (refine And.intro (by omega) ?_; conv => whnf) | (refine rowAt_of rfl ?_; conv => whnf) | (refine boolRes_true (by omega) ?_; conv => whnf) | (refine boolRes_false (by omega) ?_; conv => whnf) | (refine boolRes_true rfl ?_; conv => whnf))
      (refine ⟨_, _, _, callG [] [] [] rfl rfl rfl (by kernel_rfl) (sp) (by repeat' (first | exact trivial | exact Lent.refl _ | exact Lent.norm _ | apply And.intro)) rfl ⟨rfl, rfl, rfl, rfl, rfl, by repeat' (first | exact trivial | rfl | apply And.intro), rfl, rfl⟩, ?_⟩; conv => whnf)
      repeat (first | refine W.seq ?_ | (refine W.reg env hN (by kernel_rfl) ?_; conv => whnf) | refine W.condT rfl ?_ | refine W.condF rfl ?_ | (refine W.skip ?_; conv => whnf) | (refine W.exit ?_; conv => whnf) | refine W.block ?_ | (refine fun (hlen : (_ : Nat) ≤ _) => ?_; conv => whnf) | (refine okFp_intro (by kernel_rfl) ?_; conv => whnf) | (refine And.intro rfl ?_; conv => whnf) | (refine And.intro (by omega) ?_; conv => whnf) | (refine rowAt_of rfl ?_; conv => whnf) | (refine boolRes_true (by omega) ?_; conv => whnf) | (refine boolRes_false (by omega) ?_; conv => whnf) | (refine boolRes_true rfl ?_; conv => whnf) | (refine W.ret ?_; conv => whnf))
      exact ret0 rfl (congrArg V.bool (by simp [badRun, hr, hz])) rfl
set_option maxHeartbeats 2000000 in
theorem index_spec (rs : List (List Count)) : Spec Try.prog 57 [.sl (runRows rs) false, .fn 48 []] [] (.int .i64 (ixFrom rs 0)) [] := by
  have hrl := runRows_len rs
  refine Spec.body env Try.func57 rfl (by kernel_rfl) (Nat.le_of_ble_eq_true (by kernel_rfl)) (keysSub rfl) fun Γ hN hK => ?_; have hML : maxLen = 9223372036854775807 := by unfold maxLen; rfl
  repeat (first | refine W.seq ?_ | (refine W.reg env hN (by kernel_rfl) ?_; conv => whnf) | refine W.condT rfl ?_ | refine W.condF rfl ?_ | (refine W.skip ?_; conv => whnf) | (refine W.exit ?_; conv => whnf) | refine W.block ?_ | (refine fun (hlen : (_ : Nat) ≤ _) => ?_; conv => whnf) | (refine okFp_intro (by kernel_rfl) ?_; conv => whnf) | (refine And.intro rfl ?_; conv => whnf) | (refine And.intro (by omega) ?_; conv => whnf) | (refine rowAt_of rfl ?_; conv => whnf) | (refine boolRes_true (by omega) ?_; conv => whnf) | (refine boolRes_false (by omega) ?_; conv => whnf) | (refine boolRes_true rfl ?_; conv => whnf))
  refine W.loopG (fun n st => ∃ k : Nat, k ≤ rs.length ∧ ixFrom rs 0 = ixFrom (rs.drop k) k ∧ n = rs.length - k ∧ st = ⟨[(0, .sl (runRows rs) false), (1, .fn 48 []), (7, .int .i64 (runRows rs).length), (8, .int .i64 k)], [], []⟩)
    rs.length _ ⟨0, by omega, rfl, rfl, rfl⟩ ⟨[], [], [], LeG.mk' rfl rfl rfl (by repeat' (first | exact trivial | exact ⟨_, .refl _, rfl⟩ | apply And.intro)) .nil rfl rfl (by rw [hK]; rfl)⟩ ?_
  rintro n st ⟨k, hk, hix, rfl, rfl⟩
  repeat (first | refine W.seq ?_ | (refine W.reg env hN (by kernel_rfl) ?_; conv => whnf) | refine W.condT rfl ?_ | refine W.condF rfl ?_ | (refine W.skip ?_; conv => whnf) | (refine W.exit ?_; conv => whnf) | refine W.block ?_ | (refine fun (hlen : (_ : Nat) ≤ _) => ?_; conv => whnf) | (refine okFp_intro (by kernel_rfl) ?_; conv => whnf) | (refine And.intro rfl ?_; conv => whnf) | (refine And.intro (by omega) ?_; conv => whnf) | (refine rowAt_of rfl ?_; conv => whnf) | (refine boolRes_true (by omega) ?_; conv => whnf) | (refine boolRes_false (by omega) ?_; conv => whnf) | (refine boolRes_true rfl ?_; conv => whnf))
  refine boolRes_split (fun hb => ?_) (fun hb => ?_) <;> conv => whnf
  · have hlt : k < rs.length := by omega
    have hx : (runRows rs)[k]? = some [.sl (countRows rs[k]) false] := by simp [runRows, hlt]
    have sp := bad_spec rs[k]
    have hd : rs.drop k = rs[k] :: rs.drop (k + 1) := List.drop_eq_getElem_cons hlt
    rw [hd] at hix
    simp only [ixFrom] at hix
    repeat (first | refine W.seq ?_ | (refine W.reg env hN (by kernel_rfl) ?_; conv => whnf) | refine W.condT rfl ?_ | refine W.condF rfl ?_ | (refine W.skip ?_; conv => whnf) | (refine W.exit ?_; conv => whnf) | refine W.block ?_ | (refine fun (hlen : (_ : Nat) ≤ _) => ?_; conv => whnf) | (refine okFp_intro (by kernel_rfl) ?_; conv => whnf) | (refine And.intro rfl ?_; conv => whnf) | (refine And.intro (by omega) ?_; conv => whnf) | (refine rowAt_of rfl ?_; conv => whnf) | (refine boolRes_true (by omega) ?_; conv => whnf) | (refine boolRes_false (by omega) ?_; conv => whnf) | (refine boolRes_true rfl ?_; conv => whnf))
    refine rowAt_of hx ?_
    conv => whnf
    repeat (first | refine W.seq ?_ | (refine W.reg env hN (by kernel_rfl) ?_; conv => whnf) | refine W.condT rfl ?_ | refine W.condF rfl ?_ | (refine W.skip ?_; conv => whnf) | (refine W.exit ?_; conv => whnf) | refine W.block ?_ | (refine fun (hlen : (_ : Nat) ≤ _) => ?_; conv => whnf) | (refine okFp_intro (by kernel_rfl) ?_; conv => whnf) | (refine And.intro rfl ?_; conv => whnf) | (refine And.intro (by omega) ?_; conv => whnf) | (refine rowAt_of rfl ?_; conv => whnf) | (refine boolRes_true (by omega) ?_; conv => whnf) | (refine boolRes_false (by omega) ?_; conv => whnf) | (refine boolRes_true rfl ?_; conv => whnf))
    cases hb2 : badRun rs[k] with
    | true =>
      rw [hb2] at sp hix
      (refine ⟨_, _, _, callG [] [] [] rfl rfl rfl (by kernel_rfl) (sp) (by repeat' (first | exact trivial | exact Lent.refl _ | exact Lent.norm _ | apply And.intro)) rfl ⟨rfl, rfl, rfl, rfl, rfl, by repeat' (first | exact trivial | rfl | apply And.intro), rfl, rfl⟩, ?_⟩; conv => whnf)
      repeat (first | refine W.seq ?_ | (refine W.reg env hN (by kernel_rfl) ?_; conv => whnf) | refine W.condT rfl ?_ | refine W.condF rfl ?_ | (refine W.skip ?_; conv => whnf) | (refine W.exit ?_; conv => whnf) | refine W.block ?_ | (refine fun (hlen : (_ : Nat) ≤ _) => ?_; conv => whnf) | (refine okFp_intro (by kernel_rfl) ?_; conv => whnf) | (refine And.intro rfl ?_; conv => whnf) | (refine And.intro (by omega) ?_; conv => whnf) | (refine rowAt_of rfl ?_; conv => whnf) | (refine boolRes_true (by omega) ?_; conv => whnf) | (refine boolRes_false (by omega) ?_; conv => whnf) | (refine boolRes_true rfl ?_; conv => whnf) | (refine W.ret ?_; conv => whnf))
      exact ret0 rfl (congrArg (V.int .i64) (by rw [hix]; rfl)) rfl
    | false =>
      rw [hb2] at sp hix
      (refine ⟨_, _, _, callG [] [] [] rfl rfl rfl (by kernel_rfl) (sp) (by repeat' (first | exact trivial | exact Lent.refl _ | exact Lent.norm _ | apply And.intro)) rfl ⟨rfl, rfl, rfl, rfl, rfl, by repeat' (first | exact trivial | rfl | apply And.intro), rfl, rfl⟩, ?_⟩; conv => whnf)
      repeat (first | refine W.seq ?_ | (refine W.reg env hN (by kernel_rfl) ?_; conv => whnf) | refine W.condT rfl ?_ | refine W.condF rfl ?_ | (refine W.skip ?_; conv => whnf) | (refine W.exit ?_; conv => whnf) | refine W.block ?_ | (refine fun (hlen : (_ : Nat) ≤ _) => ?_; conv => whnf) | (refine okFp_intro (by kernel_rfl) ?_; conv => whnf) | (refine And.intro rfl ?_; conv => whnf) | (refine And.intro (by omega) ?_; conv => whnf) | (refine rowAt_of rfl ?_; conv => whnf) | (refine boolRes_true (by omega) ?_; conv => whnf) | (refine boolRes_false (by omega) ?_; conv => whnf) | (refine boolRes_true rfl ?_; conv => whnf))
      refine ⟨_, _, ?_, ⟨k + 1, by omega, ?_, rfl, rfl⟩, ⟨[], [], [], LeG.mk' rfl rfl rfl (by repeat' (first | exact trivial | exact ⟨_, .refl _, rfl⟩ | apply And.intro)) .nil rfl rfl (by rw [hK]; rfl)⟩⟩
      · omega
      · rw [hix]; rfl
  · have hke : k = rs.length := by omega
    rw [hke, List.drop_length] at hix
    repeat (first | refine W.seq ?_ | (refine W.reg env hN (by kernel_rfl) ?_; conv => whnf) | refine W.condT rfl ?_ | refine W.condF rfl ?_ | (refine W.skip ?_; conv => whnf) | (refine W.exit ?_; conv => whnf) | refine W.block ?_ | (refine fun (hlen : (_ : Nat) ≤ _) => ?_; conv => whnf) | (refine okFp_intro (by kernel_rfl) ?_; conv => whnf) | (refine And.intro rfl ?_; conv => whnf) | (refine And.intro (by omega) ?_; conv => whnf) | (refine rowAt_of rfl ?_; conv => whnf) | (refine boolRes_true (by omega) ?_; conv => whnf) | (refine boolRes_false (by omega) ?_; conv => whnf) | (refine boolRes_true rfl ?_; conv => whnf) | (refine W.ret ?_; conv => whnf))
    exact ret0 rfl (congrArg (V.int .i64) (by rw [hix]; rfl)) rfl
set_option maxHeartbeats 2000000 in
theorem contains_spec (rs : List (List Count)) : Spec Try.prog 47 [.sl (runRows rs) false, .fn 48 []] [] (.bool (rs.any badRun)) [] := by
  have hn := ixFrom_nonneg rs 0
  refine Spec.body env Try.func47 rfl (by kernel_rfl) (Nat.le_of_ble_eq_true (by kernel_rfl)) (keysSub rfl) fun Γ hN hK => ?_; have hML : maxLen = 9223372036854775807 := by unfold maxLen; rfl
  repeat (first | refine W.seq ?_ | (refine W.reg env hN (by kernel_rfl) ?_; conv => whnf) | refine W.condT rfl ?_ | refine W.condF rfl ?_ | (refine W.skip ?_; conv => whnf) | (refine W.exit ?_; conv => whnf) | refine W.block ?_ | (refine fun (hlen : (_ : Nat) ≤ _) => ?_; conv => whnf) | (refine okFp_intro (by kernel_rfl) ?_; conv => whnf) | (refine And.intro rfl ?_; conv => whnf) | (refine And.intro (by omega) ?_; conv => whnf) | (refine rowAt_of rfl ?_; conv => whnf) | (refine boolRes_true (by omega) ?_; conv => whnf) | (refine boolRes_false (by omega) ?_; conv => whnf) | (refine boolRes_true rfl ?_; conv => whnf))
  (refine ⟨_, _, _, callG [] [] [] rfl rfl rfl (by kernel_rfl) (index_spec rs) (by repeat' (first | exact trivial | exact Lent.refl _ | exact Lent.norm _ | apply And.intro)) rfl ⟨rfl, rfl, rfl, rfl, rfl, by repeat' (first | exact trivial | rfl | apply And.intro), rfl, rfl⟩, ?_⟩; conv => whnf)
  repeat (first | refine W.seq ?_ | (refine W.reg env hN (by kernel_rfl) ?_; conv => whnf) | refine W.condT rfl ?_ | refine W.condF rfl ?_ | (refine W.skip ?_; conv => whnf) | (refine W.exit ?_; conv => whnf) | refine W.block ?_ | (refine fun (hlen : (_ : Nat) ≤ _) => ?_; conv => whnf) | (refine okFp_intro (by kernel_rfl) ?_; conv => whnf) | (refine And.intro rfl ?_; conv => whnf) | (refine And.intro (by omega) ?_; conv => whnf) | (refine rowAt_of rfl ?_; conv => whnf) | (refine boolRes_true (by omega) ?_; conv => whnf) | (refine boolRes_false (by omega) ?_; conv => whnf) | (refine boolRes_true rfl ?_; conv => whnf))
  refine boolRes_keep ?_
  conv => whnf
  repeat (first | refine W.seq ?_ | (refine W.reg env hN (by kernel_rfl) ?_; conv => whnf) | refine W.condT rfl ?_ | refine W.condF rfl ?_ | (refine W.skip ?_; conv => whnf) | (refine W.exit ?_; conv => whnf) | refine W.block ?_ | (refine fun (hlen : (_ : Nat) ≤ _) => ?_; conv => whnf) | (refine okFp_intro (by kernel_rfl) ?_; conv => whnf) | (refine And.intro rfl ?_; conv => whnf) | (refine And.intro (by omega) ?_; conv => whnf) | (refine rowAt_of rfl ?_; conv => whnf) | (refine boolRes_true (by omega) ?_; conv => whnf) | (refine boolRes_false (by omega) ?_; conv => whnf) | (refine boolRes_true rfl ?_; conv => whnf) | (refine W.ret ?_; conv => whnf))
  exact ret0 rfl (congrArg V.bool (by rw [Bool.eq_iff_iff]; simp only [decide_eq_true_eq]; exact hn)) rfl
set_option maxHeartbeats 4000000 in
theorem valid_spec (s : Spill) : Spec Try.prog 24 [s.v] [] (.bool s.valid) [] := by
  have hcl := countRows_len s.buf
  have sp1 := fits_spec s.mem
  have sp2 : Spec Try.prog 46 [.sl (countRows s.buf) false] [] (.bool (isRun s.buf)) [] := run_spec s.buf
  have sp3 := contains_spec s.runs
  refine Spec.body env Try.func24 rfl (by kernel_rfl) (Nat.le_of_ble_eq_true (by kernel_rfl)) (keysSub rfl) fun Γ hN hK => ?_; have hML : maxLen = 9223372036854775807 := by unfold maxLen; rfl
  cases h1 : fits s.mem with
  | false =>
    rw [h1] at sp1
    repeat (first | refine W.seq ?_ | (refine W.reg env hN (by kernel_rfl) ?_; conv => whnf) | refine W.condT rfl ?_ | refine W.condF rfl ?_ | (refine W.skip ?_; conv => whnf) | (refine W.exit ?_; conv => whnf) | refine W.block ?_ | (refine fun (hlen : (_ : Nat) ≤ _) => ?_; conv => whnf) | (refine okFp_intro (by kernel_rfl) ?_; conv => whnf) | (refine And.intro rfl ?_; conv => whnf) | (refine And.intro (by omega) ?_; conv => whnf) | (refine rowAt_of rfl ?_; conv => whnf) | (refine boolRes_true (by omega) ?_; conv => whnf) | (refine boolRes_false (by omega) ?_; conv => whnf) | (refine boolRes_true rfl ?_; conv => whnf))
    (refine ⟨_, _, _, callG [] [] [] rfl rfl rfl (by kernel_rfl) (sp1) (by repeat' (first | exact trivial | exact Lent.refl _ | exact Lent.norm _ | apply And.intro)) rfl ⟨rfl, rfl, rfl, rfl, rfl, by repeat' (first | exact trivial | rfl | apply And.intro), rfl, rfl⟩, ?_⟩; conv => whnf)
    repeat (first | refine W.seq ?_ | (refine W.reg env hN (by kernel_rfl) ?_; conv => whnf) | refine W.condT rfl ?_ | refine W.condF rfl ?_ | (refine W.skip ?_; conv => whnf) | (refine W.exit ?_; conv => whnf) | refine W.block ?_ | (refine fun (hlen : (_ : Nat) ≤ _) => ?_; conv => whnf) | (refine okFp_intro (by kernel_rfl) ?_; conv => whnf) | (refine And.intro rfl ?_; conv => whnf) | (refine And.intro (by omega) ?_; conv => whnf) | (refine rowAt_of rfl ?_; conv => whnf) | (refine boolRes_true (by omega) ?_; conv => whnf) | (refine boolRes_false (by omega) ?_; conv => whnf) | (refine boolRes_true rfl ?_; conv => whnf) | (refine W.ret ?_; conv => whnf))
    exact ret0 rfl (congrArg V.bool (by simp [Spill.valid, h1])) rfl
  | true =>
    rw [h1] at sp1
    repeat (first | refine W.seq ?_ | (refine W.reg env hN (by kernel_rfl) ?_; conv => whnf) | refine W.condT rfl ?_ | refine W.condF rfl ?_ | (refine W.skip ?_; conv => whnf) | (refine W.exit ?_; conv => whnf) | refine W.block ?_ | (refine fun (hlen : (_ : Nat) ≤ _) => ?_; conv => whnf) | (refine okFp_intro (by kernel_rfl) ?_; conv => whnf) | (refine And.intro rfl ?_; conv => whnf) | (refine And.intro (by omega) ?_; conv => whnf) | (refine rowAt_of rfl ?_; conv => whnf) | (refine boolRes_true (by omega) ?_; conv => whnf) | (refine boolRes_false (by omega) ?_; conv => whnf) | (refine boolRes_true rfl ?_; conv => whnf))
    (refine ⟨_, _, _, callG [] [] [] rfl rfl rfl (by kernel_rfl) (sp1) (by repeat' (first | exact trivial | exact Lent.refl _ | exact Lent.norm _ | apply And.intro)) rfl ⟨rfl, rfl, rfl, rfl, rfl, by repeat' (first | exact trivial | rfl | apply And.intro), rfl, rfl⟩, ?_⟩; conv => whnf)
    repeat (first | refine W.seq ?_ | (refine W.reg env hN (by kernel_rfl) ?_; conv => whnf) | refine W.condT rfl ?_ | refine W.condF rfl ?_ | (refine W.skip ?_; conv => whnf) | (refine W.exit ?_; conv => whnf) | refine W.block ?_ | (refine fun (hlen : (_ : Nat) ≤ _) => ?_; conv => whnf) | (refine okFp_intro (by kernel_rfl) ?_; conv => whnf) | (refine And.intro rfl ?_; conv => whnf) | (refine And.intro (by omega) ?_; conv => whnf) | (refine rowAt_of rfl ?_; conv => whnf) | (refine boolRes_true (by omega) ?_; conv => whnf) | (refine boolRes_false (by omega) ?_; conv => whnf) | (refine boolRes_true rfl ?_; conv => whnf))
    cases h2 : isRun s.buf with
    | false =>
      rw [h2] at sp2
      (refine ⟨_, _, _, callG [] [] [] rfl rfl rfl (by kernel_rfl) (sp2) (by repeat' (first | exact trivial | exact Lent.refl _ | exact Lent.norm _ | apply And.intro)) rfl ⟨rfl, rfl, rfl, rfl, rfl, by repeat' (first | exact trivial | rfl | apply And.intro), rfl, rfl⟩, ?_⟩; conv => whnf)
      repeat (first | refine W.seq ?_ | (refine W.reg env hN (by kernel_rfl) ?_; conv => whnf) | refine W.condT rfl ?_ | refine W.condF rfl ?_ | (refine W.skip ?_; conv => whnf) | (refine W.exit ?_; conv => whnf) | refine W.block ?_ | (refine fun (hlen : (_ : Nat) ≤ _) => ?_; conv => whnf) | (refine okFp_intro (by kernel_rfl) ?_; conv => whnf) | (refine And.intro rfl ?_; conv => whnf) | (refine And.intro (by omega) ?_; conv => whnf) | (refine rowAt_of rfl ?_; conv => whnf) | (refine boolRes_true (by omega) ?_; conv => whnf) | (refine boolRes_false (by omega) ?_; conv => whnf) | (refine boolRes_true rfl ?_; conv => whnf) | (refine W.ret ?_; conv => whnf))
      exact ret0 rfl (congrArg V.bool (by simp [Spill.valid, h2])) rfl
    | true =>
      rw [h2] at sp2
      (refine ⟨_, _, _, callG [] [] [] rfl rfl rfl (by kernel_rfl) (sp2) (by repeat' (first | exact trivial | exact Lent.refl _ | exact Lent.norm _ | apply And.intro)) rfl ⟨rfl, rfl, rfl, rfl, rfl, by repeat' (first | exact trivial | rfl | apply And.intro), rfl, rfl⟩, ?_⟩; conv => whnf)
      repeat (first | refine W.seq ?_ | (refine W.reg env hN (by kernel_rfl) ?_; conv => whnf) | refine W.condT rfl ?_ | refine W.condF rfl ?_ | (refine W.skip ?_; conv => whnf) | (refine W.exit ?_; conv => whnf) | refine W.block ?_ | (refine fun (hlen : (_ : Nat) ≤ _) => ?_; conv => whnf) | (refine okFp_intro (by kernel_rfl) ?_; conv => whnf) | (refine And.intro rfl ?_; conv => whnf) | (refine And.intro (by omega) ?_; conv => whnf) | (refine rowAt_of rfl ?_; conv => whnf) | (refine boolRes_true (by omega) ?_; conv => whnf) | (refine boolRes_false (by omega) ?_; conv => whnf) | (refine boolRes_true rfl ?_; conv => whnf))
      refine boolRes_split (fun hb3 => ?_) (fun hb3 => ?_) <;> conv => whnf
      rotate_left
      · repeat (first | refine W.seq ?_ | (refine W.reg env hN (by kernel_rfl) ?_; conv => whnf) | refine W.condT rfl ?_ | refine W.condF rfl ?_ | (refine W.skip ?_; conv => whnf) | (refine W.exit ?_; conv => whnf) | refine W.block ?_ | (refine fun (hlen : (_ : Nat) ≤ _) => ?_; conv => whnf) | (refine okFp_intro (by kernel_rfl) ?_; conv => whnf) | (refine And.intro rfl ?_; conv => whnf) | (refine And.intro (by omega) ?_; conv => whnf) | (refine rowAt_of rfl ?_; conv => whnf) | (refine boolRes_true (by omega) ?_; conv => whnf) | (refine boolRes_false (by omega) ?_; conv => whnf) | (refine boolRes_true rfl ?_; conv => whnf) | (refine W.ret ?_; conv => whnf))
        exact ret0 rfl (congrArg V.bool (by simp [Spill.valid]; omega)) rfl
      repeat (first | refine W.seq ?_ | (refine W.reg env hN (by kernel_rfl) ?_; conv => whnf) | refine W.condT rfl ?_ | refine W.condF rfl ?_ | (refine W.skip ?_; conv => whnf) | (refine W.exit ?_; conv => whnf) | refine W.block ?_ | (refine fun (hlen : (_ : Nat) ≤ _) => ?_; conv => whnf) | (refine okFp_intro (by kernel_rfl) ?_; conv => whnf) | (refine And.intro rfl ?_; conv => whnf) | (refine And.intro (by omega) ?_; conv => whnf) | (refine rowAt_of rfl ?_; conv => whnf) | (refine boolRes_true (by omega) ?_; conv => whnf) | (refine boolRes_false (by omega) ?_; conv => whnf) | (refine boolRes_true rfl ?_; conv => whnf))
      refine boolRes_split (fun hb4 => ?_) (fun hb4 => ?_) <;> conv => whnf
      rotate_left
      · repeat (first | refine W.seq ?_ | (refine W.reg env hN (by kernel_rfl) ?_; conv => whnf) | refine W.condT rfl ?_ | refine W.condF rfl ?_ | (refine W.skip ?_; conv => whnf) | (refine W.exit ?_; conv => whnf) | refine W.block ?_ | (refine fun (hlen : (_ : Nat) ≤ _) => ?_; conv => whnf) | (refine okFp_intro (by kernel_rfl) ?_; conv => whnf) | (refine And.intro rfl ?_; conv => whnf) | (refine And.intro (by omega) ?_; conv => whnf) | (refine rowAt_of rfl ?_; conv => whnf) | (refine boolRes_true (by omega) ?_; conv => whnf) | (refine boolRes_false (by omega) ?_; conv => whnf) | (refine boolRes_true rfl ?_; conv => whnf) | (refine W.ret ?_; conv => whnf))
        exact ret0 rfl (congrArg V.bool (by simp [Spill.valid]; omega)) rfl
      repeat (first | refine W.seq ?_ | (refine W.reg env hN (by kernel_rfl) ?_; conv => whnf) | refine W.condT rfl ?_ | refine W.condF rfl ?_ | (refine W.skip ?_; conv => whnf) | (refine W.exit ?_; conv => whnf) | refine W.block ?_ | (refine fun (hlen : (_ : Nat) ≤ _) => ?_; conv => whnf) | (refine okFp_intro (by kernel_rfl) ?_; conv => whnf) | (refine And.intro rfl ?_; conv => whnf) | (refine And.intro (by omega) ?_; conv => whnf) | (refine rowAt_of rfl ?_; conv => whnf) | (refine boolRes_true (by omega) ?_; conv => whnf) | (refine boolRes_false (by omega) ?_; conv => whnf) | (refine boolRes_true rfl ?_; conv => whnf))
      refine boolRes_split (fun hb5 => ?_) (fun hb5 => ?_) <;> conv => whnf
      rotate_left
      · repeat (first | refine W.seq ?_ | (refine W.reg env hN (by kernel_rfl) ?_; conv => whnf) | refine W.condT rfl ?_ | refine W.condF rfl ?_ | (refine W.skip ?_; conv => whnf) | (refine W.exit ?_; conv => whnf) | refine W.block ?_ | (refine fun (hlen : (_ : Nat) ≤ _) => ?_; conv => whnf) | (refine okFp_intro (by kernel_rfl) ?_; conv => whnf) | (refine And.intro rfl ?_; conv => whnf) | (refine And.intro (by omega) ?_; conv => whnf) | (refine rowAt_of rfl ?_; conv => whnf) | (refine boolRes_true (by omega) ?_; conv => whnf) | (refine boolRes_false (by omega) ?_; conv => whnf) | (refine boolRes_true rfl ?_; conv => whnf) | (refine W.ret ?_; conv => whnf))
        exact ret0 rfl (congrArg V.bool (by simp [Spill.valid]; omega)) rfl
      repeat (first | refine W.seq ?_ | (refine W.reg env hN (by kernel_rfl) ?_; conv => whnf) | refine W.condT rfl ?_ | refine W.condF rfl ?_ | (refine W.skip ?_; conv => whnf) | (refine W.exit ?_; conv => whnf) | refine W.block ?_ | (refine fun (hlen : (_ : Nat) ≤ _) => ?_; conv => whnf) | (refine okFp_intro (by kernel_rfl) ?_; conv => whnf) | (refine And.intro rfl ?_; conv => whnf) | (refine And.intro (by omega) ?_; conv => whnf) | (refine rowAt_of rfl ?_; conv => whnf) | (refine boolRes_true (by omega) ?_; conv => whnf) | (refine boolRes_false (by omega) ?_; conv => whnf) | (refine boolRes_true rfl ?_; conv => whnf))
      have e3 : (s.buf.length : Int) ≤ s.peak := by omega
      cases h6 : s.runs.any badRun with
      | false =>
        rw [h6] at sp3
        (refine ⟨_, _, _, callG [] [] [] rfl rfl rfl (by kernel_rfl) (sp3) (by repeat' (first | exact trivial | exact Lent.refl _ | exact Lent.norm _ | apply And.intro)) rfl ⟨rfl, rfl, rfl, rfl, rfl, by repeat' (first | exact trivial | rfl | apply And.intro), rfl, rfl⟩, ?_⟩; conv => whnf)
        repeat (first | refine W.seq ?_ | (refine W.reg env hN (by kernel_rfl) ?_; conv => whnf) | refine W.condT rfl ?_ | refine W.condF rfl ?_ | (refine W.skip ?_; conv => whnf) | (refine W.exit ?_; conv => whnf) | refine W.block ?_ | (refine fun (hlen : (_ : Nat) ≤ _) => ?_; conv => whnf) | (refine okFp_intro (by kernel_rfl) ?_; conv => whnf) | (refine And.intro rfl ?_; conv => whnf) | (refine And.intro (by omega) ?_; conv => whnf) | (refine rowAt_of rfl ?_; conv => whnf) | (refine boolRes_true (by omega) ?_; conv => whnf) | (refine boolRes_false (by omega) ?_; conv => whnf) | (refine boolRes_true rfl ?_; conv => whnf) | (refine W.ret ?_; conv => whnf))
        exact ret0 rfl (congrArg V.bool (by simp [Spill.valid, h1, h2, e3, hb4, hb5, h6])) rfl
      | true =>
        rw [h6] at sp3
        (refine ⟨_, _, _, callG [] [] [] rfl rfl rfl (by kernel_rfl) (sp3) (by repeat' (first | exact trivial | exact Lent.refl _ | exact Lent.norm _ | apply And.intro)) rfl ⟨rfl, rfl, rfl, rfl, rfl, by repeat' (first | exact trivial | rfl | apply And.intro), rfl, rfl⟩, ?_⟩; conv => whnf)
        repeat (first | refine W.seq ?_ | (refine W.reg env hN (by kernel_rfl) ?_; conv => whnf) | refine W.condT rfl ?_ | refine W.condF rfl ?_ | (refine W.skip ?_; conv => whnf) | (refine W.exit ?_; conv => whnf) | refine W.block ?_ | (refine fun (hlen : (_ : Nat) ≤ _) => ?_; conv => whnf) | (refine okFp_intro (by kernel_rfl) ?_; conv => whnf) | (refine And.intro rfl ?_; conv => whnf) | (refine And.intro (by omega) ?_; conv => whnf) | (refine rowAt_of rfl ?_; conv => whnf) | (refine boolRes_true (by omega) ?_; conv => whnf) | (refine boolRes_false (by omega) ?_; conv => whnf) | (refine boolRes_true rfl ?_; conv => whnf) | (refine W.ret ?_; conv => whnf))
        exact ret0 rfl (congrArg V.bool (by simp [Spill.valid, h6])) rfl
end Go.Sx.Sp
namespace Go.Sx.Sp
open Go Go.Sx Go.Proofs
attribute [local irreducible] GoodW
def Spill.zero : Spill := ⟨0, [], [], 0, 0⟩
set_option maxHeartbeats 2000000 in
theorem new_spec (n : Int) (h : fits n = true) : Spec Try.prog 12 [.int .i64 n] [] (.tup [(Spill.v ⟨n, [], [], 0, 0⟩), .int .i64 0]) [] := by
  have sp := fits_spec n
  rw [h] at sp
  refine Spec.body env Try.func12 rfl (by kernel_rfl) (Nat.le_of_ble_eq_true (by kernel_rfl)) (keysSub rfl) fun Γ hN hK => ?_; have hML : maxLen = 9223372036854775807 := by unfold maxLen; rfl
  repeat (first | refine W.seq ?_ | (refine W.reg env hN (by kernel_rfl) ?_; conv => whnf) | refine W.condT rfl ?_ | refine W.condF rfl ?_ | (refine W.skip ?_; conv => whnf) | (refine W.exit ?_; conv => whnf) | refine W.block ?_ | (refine fun (hlen : (_ : Nat) ≤ _) => ?_; conv => whnf) | (refine okFp_intro (by kernel_rfl) ?_; conv => whnf) | (refine And.intro rfl ?_; conv => whnf) | (refine And.intro (by omega) ?_; conv => whnf) | (refine rowAt_of rfl ?_; conv => whnf) | (refine boolRes_true (by omega) ?_; conv => whnf) | (refine boolRes_false (by omega) ?_; conv => whnf) | (refine boolRes_true rfl ?_; conv => whnf))
  (refine ⟨_, _, _, callG [] [] [] rfl rfl rfl (by kernel_rfl) (sp) (by repeat' (first | exact trivial | exact Lent.refl _ | exact Lent.norm _ | apply And.intro)) rfl ⟨rfl, rfl, rfl, rfl, rfl, by repeat' (first | exact trivial | rfl | apply And.intro), rfl, rfl⟩, ?_⟩; conv => whnf)
  repeat (first | refine W.seq ?_ | (refine W.reg env hN (by kernel_rfl) ?_; conv => whnf) | refine W.condT rfl ?_ | refine W.condF rfl ?_ | (refine W.skip ?_; conv => whnf) | (refine W.exit ?_; conv => whnf) | refine W.block ?_ | (refine fun (hlen : (_ : Nat) ≤ _) => ?_; conv => whnf) | (refine okFp_intro (by kernel_rfl) ?_; conv => whnf) | (refine And.intro rfl ?_; conv => whnf) | (refine And.intro (by omega) ?_; conv => whnf) | (refine rowAt_of rfl ?_; conv => whnf) | (refine boolRes_true (by omega) ?_; conv => whnf) | (refine boolRes_false (by omega) ?_; conv => whnf) | (refine boolRes_true rfl ?_; conv => whnf) | (refine W.ret ?_; conv => whnf))
  exact ret0 rfl rfl rfl
set_option maxHeartbeats 2000000 in
theorem newBad_spec (n : Int) (h : fits n = false) : Spec Try.prog 12 [.int .i64 n] [] (.tup [Spill.zero.v, .int .i64 2]) [] := by
  have sp := fits_spec n
  rw [h] at sp
  refine Spec.body env Try.func12 rfl (by kernel_rfl) (Nat.le_of_ble_eq_true (by kernel_rfl)) (keysSub rfl) fun Γ hN hK => ?_; have hML : maxLen = 9223372036854775807 := by unfold maxLen; rfl
  repeat (first | refine W.seq ?_ | (refine W.reg env hN (by kernel_rfl) ?_; conv => whnf) | refine W.condT rfl ?_ | refine W.condF rfl ?_ | (refine W.skip ?_; conv => whnf) | (refine W.exit ?_; conv => whnf) | refine W.block ?_ | (refine fun (hlen : (_ : Nat) ≤ _) => ?_; conv => whnf) | (refine okFp_intro (by kernel_rfl) ?_; conv => whnf) | (refine And.intro rfl ?_; conv => whnf) | (refine And.intro (by omega) ?_; conv => whnf) | (refine rowAt_of rfl ?_; conv => whnf) | (refine boolRes_true (by omega) ?_; conv => whnf) | (refine boolRes_false (by omega) ?_; conv => whnf) | (refine boolRes_true rfl ?_; conv => whnf))
  (refine ⟨_, _, _, callG [] [] [] rfl rfl rfl (by kernel_rfl) (sp) (by repeat' (first | exact trivial | exact Lent.refl _ | exact Lent.norm _ | apply And.intro)) rfl ⟨rfl, rfl, rfl, rfl, rfl, by repeat' (first | exact trivial | rfl | apply And.intro), rfl, rfl⟩, ?_⟩; conv => whnf)
  repeat (first | refine W.seq ?_ | (refine W.reg env hN (by kernel_rfl) ?_; conv => whnf) | refine W.condT rfl ?_ | refine W.condF rfl ?_ | (refine W.skip ?_; conv => whnf) | (refine W.exit ?_; conv => whnf) | refine W.block ?_ | (refine fun (hlen : (_ : Nat) ≤ _) => ?_; conv => whnf) | (refine okFp_intro (by kernel_rfl) ?_; conv => whnf) | (refine And.intro rfl ?_; conv => whnf) | (refine And.intro (by omega) ?_; conv => whnf) | (refine rowAt_of rfl ?_; conv => whnf) | (refine boolRes_true (by omega) ?_; conv => whnf) | (refine boolRes_false (by omega) ?_; conv => whnf) | (refine boolRes_true rfl ?_; conv => whnf) | (refine W.ret ?_; conv => whnf))
  exact ret0 rfl rfl rfl
set_option maxHeartbeats 2000000 in
theorem pushC_spec (s : Spill) (t : List UInt8) (hs : s.Fine) : Spec Try.prog 36 [.bp 0 0, .ro [.str t] 0] s.hin (.tup []) ((s.push t).hout 5) := by
  refine Spec.body env Try.func36 rfl (by kernel_rfl) (Nat.le_of_ble_eq_true (by kernel_rfl)) (keysSub rfl) fun Γ hN hK => ?_; have hML : maxLen = 9223372036854775807 := by unfold maxLen; rfl
  repeat (first | refine W.seq ?_ | (refine W.reg env hN (by kernel_rfl) ?_; conv => whnf) | refine W.condT rfl ?_ | refine W.condF rfl ?_ | (refine W.skip ?_; conv => whnf) | (refine W.exit ?_; conv => whnf) | refine W.block ?_ | (refine fun (hlen : (_ : Nat) ≤ _) => ?_; conv => whnf) | (refine okFp_intro (by kernel_rfl) ?_; conv => whnf) | (refine And.intro rfl ?_; conv => whnf) | (refine And.intro (by omega) ?_; conv => whnf) | (refine rowAt_of rfl ?_; conv => whnf) | (refine boolRes_true (by omega) ?_; conv => whnf) | (refine boolRes_false (by omega) ?_; conv => whnf) | (refine boolRes_true rfl ?_; conv => whnf))
  (refine ⟨_, _, _, callG [(0, 0), (1, 1), (2, 2)] [(49, 5)] [] rfl rfl rfl (by kernel_rfl) (push_spec s t hs) (by repeat' (first | exact trivial | exact Lent.refl _ | exact Lent.norm _ | apply And.intro)) rfl ⟨rfl, rfl, rfl, rfl, rfl, by repeat' (first | exact trivial | rfl | apply And.intro), rfl, rfl⟩, ?_⟩; conv => whnf)
  repeat (first | refine W.seq ?_ | (refine W.reg env hN (by kernel_rfl) ?_; conv => whnf) | refine W.condT rfl ?_ | refine W.condF rfl ?_ | (refine W.skip ?_; conv => whnf) | (refine W.exit ?_; conv => whnf) | refine W.block ?_ | (refine fun (hlen : (_ : Nat) ≤ _) => ?_; conv => whnf) | (refine okFp_intro (by kernel_rfl) ?_; conv => whnf) | (refine And.intro rfl ?_; conv => whnf) | (refine And.intro (by omega) ?_; conv => whnf) | (refine rowAt_of rfl ?_; conv => whnf) | (refine boolRes_true (by omega) ?_; conv => whnf) | (refine boolRes_false (by omega) ?_; conv => whnf) | (refine boolRes_true rfl ?_; conv => whnf))
  exact retHn rfl (.refl _) rfl rfl rfl ⟨rfl, rfl, rfl, rfl, rfl, rfl, rfl, rfl, trivial⟩
set_option maxHeartbeats 2000000 in
theorem changedBad_spec (s : Spill) (f : Nat) (cs : List V) (hc : (V.fn f cs).sites = []) (h : s.valid = false) : Spec Try.prog 35 [s.v, .fn f cs] [] (.tup [Spill.zero.v, .int .i64 1]) [] := by
  have sp := valid_spec s
  rw [h] at sp
  refine Spec.body env Try.func35 rfl (by kernel_rfl) (Nat.le_of_ble_eq_true (by kernel_rfl)) (keysSub rfl) fun Γ hN hK => ?_; have hML : maxLen = 9223372036854775807 := by unfold maxLen; rfl
  repeat (first | refine W.seq ?_ | (refine W.reg env hN (by kernel_rfl) ?_; conv => whnf) | refine W.condT rfl ?_ | refine W.condF rfl ?_ | (refine W.skip ?_; conv => whnf) | (refine W.exit ?_; conv => whnf) | refine W.block ?_ | (refine fun (hlen : (_ : Nat) ≤ _) => ?_; conv => whnf) | (refine okFp_intro (by kernel_rfl) ?_; conv => whnf) | (refine And.intro rfl ?_; conv => whnf) | (refine And.intro (by omega) ?_; conv => whnf) | (refine rowAt_of rfl ?_; conv => whnf) | (refine boolRes_true (by omega) ?_; conv => whnf) | (refine boolRes_false (by omega) ?_; conv => whnf) | (refine boolRes_true rfl ?_; conv => whnf))
  (refine ⟨_, _, _, callG [] [] [] rfl rfl rfl (by kernel_rfl) (sp) (by repeat' (first | exact trivial | exact Lent.refl _ | exact Lent.norm _ | apply And.intro)) rfl ⟨rfl, rfl, rfl, rfl, rfl, by repeat' (first | exact trivial | rfl | apply And.intro), rfl, rfl⟩, ?_⟩; conv => whnf)
  repeat (first | refine W.seq ?_ | (refine W.reg env hN (by kernel_rfl) ?_; conv => whnf) | refine W.condT rfl ?_ | refine W.condF rfl ?_ | (refine W.skip ?_; conv => whnf) | (refine W.exit ?_; conv => whnf) | refine W.block ?_ | (refine fun (hlen : (_ : Nat) ≤ _) => ?_; conv => whnf) | (refine okFp_intro (by kernel_rfl) ?_; conv => whnf) | (refine And.intro rfl ?_; conv => whnf) | (refine And.intro (by omega) ?_; conv => whnf) | (refine rowAt_of rfl ?_; conv => whnf) | (refine boolRes_true (by omega) ?_; conv => whnf) | (refine boolRes_false (by omega) ?_; conv => whnf) | (refine boolRes_true rfl ?_; conv => whnf) | (refine W.ret ?_; conv => whnf))
  exact ret0 rfl rfl rfl
set_option maxHeartbeats 2000000 in
theorem changedPush_spec (s : Spill) (t : List UInt8) (hs : s.Fine) (hs' : (s.push t).Small) (h : s.valid = true) : Spec Try.prog 35 [s.v, .fn 36 [.ro [.str t] 0]] [] (.tup [(s.push t).v, .int .i64 0]) [] := by
  have sp := valid_spec s
  rw [h] at sp
  refine Spec.body env Try.func35 rfl (by kernel_rfl) (Nat.le_of_ble_eq_true (by kernel_rfl)) (keysSub rfl) fun Γ hN hK => ?_; have hML : maxLen = 9223372036854775807 := by unfold maxLen; rfl
  repeat (first | refine W.seq ?_ | (refine W.reg env hN (by kernel_rfl) ?_; conv => whnf) | refine W.condT rfl ?_ | refine W.condF rfl ?_ | (refine W.skip ?_; conv => whnf) | (refine W.exit ?_; conv => whnf) | refine W.block ?_ | (refine fun (hlen : (_ : Nat) ≤ _) => ?_; conv => whnf) | (refine okFp_intro (by kernel_rfl) ?_; conv => whnf) | (refine And.intro rfl ?_; conv => whnf) | (refine And.intro (by omega) ?_; conv => whnf) | (refine rowAt_of rfl ?_; conv => whnf) | (refine boolRes_true (by omega) ?_; conv => whnf) | (refine boolRes_false (by omega) ?_; conv => whnf) | (refine boolRes_true rfl ?_; conv => whnf))
  (refine ⟨_, _, _, callG [] [] [] rfl rfl rfl (by kernel_rfl) (sp) (by repeat' (first | exact trivial | exact Lent.refl _ | exact Lent.norm _ | apply And.intro)) rfl ⟨rfl, rfl, rfl, rfl, rfl, by repeat' (first | exact trivial | rfl | apply And.intro), rfl, rfl⟩, ?_⟩; conv => whnf)
  repeat (first | refine W.seq ?_ | (refine W.reg env hN (by kernel_rfl) ?_; conv => whnf) | refine W.condT rfl ?_ | refine W.condF rfl ?_ | (refine W.skip ?_; conv => whnf) | (refine W.exit ?_; conv => whnf) | refine W.block ?_ | (refine fun (hlen : (_ : Nat) ≤ _) => ?_; conv => whnf) | (refine okFp_intro (by kernel_rfl) ?_; conv => whnf) | (refine And.intro rfl ?_; conv => whnf) | (refine And.intro (by omega) ?_; conv => whnf) | (refine rowAt_of rfl ?_; conv => whnf) | (refine boolRes_true (by omega) ?_; conv => whnf) | (refine boolRes_false (by omega) ?_; conv => whnf) | (refine boolRes_true rfl ?_; conv => whnf))
  (refine ⟨_, _, _, callG [] [(1, 12), (7, 112), (11, 113)] [] rfl rfl rfl (by kernel_rfl) (own_own s hs.toSmall) (by repeat' (first | exact trivial | exact Lent.refl _ | exact Lent.norm _ | apply And.intro)) rfl ⟨rfl, rfl, rfl, rfl, rfl, by repeat' (first | exact trivial | rfl | apply And.intro), rfl, rfl⟩, ?_⟩; conv => whnf)
  repeat (first | refine W.seq ?_ | (refine W.reg env hN (by kernel_rfl) ?_; conv => whnf) | refine W.condT rfl ?_ | refine W.condF rfl ?_ | (refine W.skip ?_; conv => whnf) | (refine W.exit ?_; conv => whnf) | refine W.block ?_ | (refine fun (hlen : (_ : Nat) ≤ _) => ?_; conv => whnf) | (refine okFp_intro (by kernel_rfl) ?_; conv => whnf) | (refine And.intro rfl ?_; conv => whnf) | (refine And.intro (by omega) ?_; conv => whnf) | (refine rowAt_of rfl ?_; conv => whnf) | (refine boolRes_true (by omega) ?_; conv => whnf) | (refine boolRes_false (by omega) ?_; conv => whnf) | (refine boolRes_true rfl ?_; conv => whnf))
  (refine ⟨_, _, _, callG [(0, 12), (1, 112), (2, 113)] [(5, 114)] [] rfl rfl rfl (by kernel_rfl) (pushC_spec s t hs) (by repeat' (first | exact trivial | exact Lent.refl _ | exact Lent.norm _ | apply And.intro)) rfl ⟨rfl, rfl, rfl, rfl, rfl, by repeat' (first | exact trivial | rfl | apply And.intro), rfl, rfl⟩, ?_⟩; conv => whnf)
  refine W.leG (mp := [(4, 4), (12, 12)]) (bo := [113, 114]) (st' := ⟨[(6, .bp 12 0), (4, .bp 4 0)], [(4, [.rows 5 [[.int .i64 0, .nils, .nils, .int .i64 0, .int .i64 0]] none]), (12, [(s.push t).blk])], [4, 12]⟩)
    (LeG.mk' rfl rfl rfl (by repeat' (first | exact trivial | exact ⟨_, .refl _, rfl⟩ | apply And.intro)) (.cons 4 rfl rfl (.refl _) rfl (.cons 12 (b1 := (s.push t).blk) rfl rfl (.rows _ _ _ (by repeat' (first | exact trivial | exact ⟨Lent.refl _, rfl⟩ | exact ⟨Lent.norm _, rfl⟩ | exact ⟨Lent.whole rfl rfl (by first | rfl | simp) rfl (by first | exact .inl rfl | exact .inr rfl), rfl⟩ | apply And.intro))) rfl .nil)) rfl rfl (by rw [hK]; rfl)) ?_
  repeat (first | refine W.seq ?_ | (refine W.reg env hN (by kernel_rfl) ?_; conv => whnf) | refine W.condT rfl ?_ | refine W.condF rfl ?_ | (refine W.skip ?_; conv => whnf) | (refine W.exit ?_; conv => whnf) | refine W.block ?_ | (refine fun (hlen : (_ : Nat) ≤ _) => ?_; conv => whnf) | (refine okFp_intro (by kernel_rfl) ?_; conv => whnf) | (refine And.intro rfl ?_; conv => whnf) | (refine And.intro (by omega) ?_; conv => whnf) | (refine rowAt_of rfl ?_; conv => whnf) | (refine boolRes_true (by omega) ?_; conv => whnf) | (refine boolRes_false (by omega) ?_; conv => whnf) | (refine boolRes_true rfl ?_; conv => whnf))
  (refine ⟨_, _, _, callG [] [(1, 19)] [] rfl rfl rfl (by kernel_rfl) (own_data (s.push t) hs') (by repeat' (first | exact trivial | exact Lent.refl _ | exact Lent.norm _ | apply And.intro)) rfl ⟨rfl, rfl, rfl, rfl, rfl, by repeat' (first | exact trivial | rfl | apply And.intro), rfl, rfl⟩, ?_⟩; conv => whnf)
  repeat (first | refine W.seq ?_ | (refine W.reg env hN (by kernel_rfl) ?_; conv => whnf) | refine W.condT rfl ?_ | refine W.condF rfl ?_ | (refine W.skip ?_; conv => whnf) | (refine W.exit ?_; conv => whnf) | refine W.block ?_ | (refine fun (hlen : (_ : Nat) ≤ _) => ?_; conv => whnf) | (refine okFp_intro (by kernel_rfl) ?_; conv => whnf) | (refine And.intro rfl ?_; conv => whnf) | (refine And.intro (by omega) ?_; conv => whnf) | (refine rowAt_of rfl ?_; conv => whnf) | (refine boolRes_true (by omega) ?_; conv => whnf) | (refine boolRes_false (by omega) ?_; conv => whnf) | (refine boolRes_true rfl ?_; conv => whnf) | (refine W.ret ?_; conv => whnf))
  exact ret0 rfl rfl rfl
set_option maxHeartbeats 2000000 in
theorem Push_spec (s : Spill) (t : List UInt8) (hs : s.Fine) (hs' : (s.push t).Small) (h : s.valid = true) : Spec Try.prog 13 [s.v, .str t] [] (.tup [(s.push t).v, .int .i64 0]) [] := by
  refine Spec.body env Try.func13 rfl (by kernel_rfl) (Nat.le_of_ble_eq_true (by kernel_rfl)) (keysSub rfl) fun Γ hN hK => ?_; have hML : maxLen = 9223372036854775807 := by unfold maxLen; rfl
  refine W.seq ?_
  (refine W.reg env hN (by kernel_rfl) ?_; conv => whnf)
  refine W.leG (mp := [(2, 2), (4, 4)]) (bo := [3]) (st' := ⟨[(2, .bp 2 0), (3, .ro [.str t] 0), (4, .bp 4 0), (5, .int .i64 0)], [(2, [s.blk]), (4, [.rows 5 [[.int .i64 0, .nils, .nils, .int .i64 0, .int .i64 0]] none])], [2, 4]⟩)
    (LeG.mk' rfl rfl rfl ⟨⟨_, .refl _, rfl⟩, ⟨_, .bp 3 0 1 [.str t] none rfl rfl (by simp) (.inr rfl), rfl⟩, ⟨_, .refl _, rfl⟩, ⟨_, .refl _, rfl⟩, trivial⟩ (.cons 2 rfl rfl (.refl _) rfl (.cons 4 rfl rfl (.refl _) rfl .nil)) rfl rfl (by rw [hK]; rfl)) ?_
  repeat (first | refine W.seq ?_ | (refine W.reg env hN (by kernel_rfl) ?_; conv => whnf) | refine W.condT rfl ?_ | refine W.condF rfl ?_ | (refine W.skip ?_; conv => whnf) | (refine W.exit ?_; conv => whnf) | refine W.block ?_ | (refine fun (hlen : (_ : Nat) ≤ _) => ?_; conv => whnf) | (refine okFp_intro (by kernel_rfl) ?_; conv => whnf) | (refine And.intro rfl ?_; conv => whnf) | (refine And.intro (by omega) ?_; conv => whnf) | (refine rowAt_of rfl ?_; conv => whnf) | (refine boolRes_true (by omega) ?_; conv => whnf) | (refine boolRes_false (by omega) ?_; conv => whnf) | (refine boolRes_true rfl ?_; conv => whnf))
  (refine ⟨_, _, _, callG [] [] [] rfl rfl rfl (by kernel_rfl) (changedPush_spec s t hs hs' h) (by repeat' (first | exact trivial | exact Lent.refl _ | exact Lent.norm _ | apply And.intro)) rfl ⟨rfl, rfl, rfl, rfl, rfl, by repeat' (first | exact trivial | rfl | apply And.intro), rfl, rfl⟩, ?_⟩; conv => whnf)
  repeat (first | refine W.seq ?_ | (refine W.reg env hN (by kernel_rfl) ?_; conv => whnf) | refine W.condT rfl ?_ | refine W.condF rfl ?_ | (refine W.skip ?_; conv => whnf) | (refine W.exit ?_; conv => whnf) | refine W.block ?_ | (refine fun (hlen : (_ : Nat) ≤ _) => ?_; conv => whnf) | (refine okFp_intro (by kernel_rfl) ?_; conv => whnf) | (refine And.intro rfl ?_; conv => whnf) | (refine And.intro (by omega) ?_; conv => whnf) | (refine rowAt_of rfl ?_; conv => whnf) | (refine boolRes_true (by omega) ?_; conv => whnf) | (refine boolRes_false (by omega) ?_; conv => whnf) | (refine boolRes_true rfl ?_; conv => whnf) | (refine W.ret ?_; conv => whnf))
  exact ret0 rfl rfl rfl
end Go.Sx.Sp
namespace Go.Sx.Sp
open Go Go.Sx Go.Proofs
attribute [local irreducible] GoodW
theorem flush_buf (s : Spill) : s.flush.buf = [] := by
  cases h : s.buf with
  | nil => rw [flush_nil h]; exact h
  | cons c l => rw [flush_cons (by rw [h]; simp)]
theorem merge_buf (s : Spill) : s.merge.buf = s.buf := by unfold Spill.merge; split <;> rfl
theorem mergeAll_buf : ∀ (n : Nat) (s : Spill), (mergeAll n s).buf = s.buf
  | 0, s => rfl
  | n + 1, s => by
    unfold mergeAll
    split
    · rw [mergeAll_buf n, merge_buf]
    · rfl
theorem fin_buf (s : Spill) : s.fin.buf = [] := by unfold Spill.fin; rw [mergeAll_buf, flush_buf]
theorem blk_nil {s : Spill} (h : s.buf = []) : s.blk = .rows 5 [[.int .i64 s.mem, .sl [] false, .sl (runRows s.runs) false, .int .i64 s.peak, .int .i64 s.written]] none := by
  simp only [Spill.blk, h]; rfl
set_option maxHeartbeats 2000000 in
theorem changedFlush_spec (s : Spill) (hs : s.Small) (hw : 0 ≤ s.written ∧ s.written ≤ 2305843009213693952) (hs' : s.flush.Small) (h : s.valid = true) : Spec Try.prog 35 [s.v, .fn 40 []] [] (.tup [s.flush.v, .int .i64 0]) [] := by
  have sp := valid_spec s
  rw [h] at sp
  have hb := blk_nil (flush_buf s)
  refine Spec.body env Try.func35 rfl (by kernel_rfl) (Nat.le_of_ble_eq_true (by kernel_rfl)) (keysSub rfl) fun Γ hN hK => ?_; have hML : maxLen = 9223372036854775807 := by unfold maxLen; rfl
  repeat (first | refine W.seq ?_ | (refine W.reg env hN (by kernel_rfl) ?_; conv => whnf) | refine W.condT rfl ?_ | refine W.condF rfl ?_ | (refine W.skip ?_; conv => whnf) | (refine W.exit ?_; conv => whnf) | refine W.block ?_ | (refine fun (hlen : (_ : Nat) ≤ _) => ?_; conv => whnf) | (refine okFp_intro (by kernel_rfl) ?_; conv => whnf) | (refine And.intro rfl ?_; conv => whnf) | (refine And.intro (by omega) ?_; conv => whnf) | (refine rowAt_of rfl ?_; conv => whnf) | (refine boolRes_true (by omega) ?_; conv => whnf) | (refine boolRes_false (by omega) ?_; conv => whnf) | (refine boolRes_true rfl ?_; conv => whnf))
  (refine ⟨_, _, _, callG [] [] [] rfl rfl rfl (by kernel_rfl) (sp) (by repeat' (first | exact trivial | exact Lent.refl _ | exact Lent.norm _ | apply And.intro)) rfl ⟨rfl, rfl, rfl, rfl, rfl, by repeat' (first | exact trivial | rfl | apply And.intro), rfl, rfl⟩, ?_⟩; conv => whnf)
  repeat (first | refine W.seq ?_ | (refine W.reg env hN (by kernel_rfl) ?_; conv => whnf) | refine W.condT rfl ?_ | refine W.condF rfl ?_ | (refine W.skip ?_; conv => whnf) | (refine W.exit ?_; conv => whnf) | refine W.block ?_ | (refine fun (hlen : (_ : Nat) ≤ _) => ?_; conv => whnf) | (refine okFp_intro (by kernel_rfl) ?_; conv => whnf) | (refine And.intro rfl ?_; conv => whnf) | (refine And.intro (by omega) ?_; conv => whnf) | (refine rowAt_of rfl ?_; conv => whnf) | (refine boolRes_true (by omega) ?_; conv => whnf) | (refine boolRes_false (by omega) ?_; conv => whnf) | (refine boolRes_true rfl ?_; conv => whnf))
  (refine ⟨_, _, _, callG [] [(1, 12), (7, 112), (11, 113)] [] rfl rfl rfl (by kernel_rfl) (own_own s hs) (by repeat' (first | exact trivial | exact Lent.refl _ | exact Lent.norm _ | apply And.intro)) rfl ⟨rfl, rfl, rfl, rfl, rfl, by repeat' (first | exact trivial | rfl | apply And.intro), rfl, rfl⟩, ?_⟩; conv => whnf)
  repeat (first | refine W.seq ?_ | (refine W.reg env hN (by kernel_rfl) ?_; conv => whnf) | refine W.condT rfl ?_ | refine W.condF rfl ?_ | (refine W.skip ?_; conv => whnf) | (refine W.exit ?_; conv => whnf) | refine W.block ?_ | (refine fun (hlen : (_ : Nat) ≤ _) => ?_; conv => whnf) | (refine okFp_intro (by kernel_rfl) ?_; conv => whnf) | (refine And.intro rfl ?_; conv => whnf) | (refine And.intro (by omega) ?_; conv => whnf) | (refine rowAt_of rfl ?_; conv => whnf) | (refine boolRes_true (by omega) ?_; conv => whnf) | (refine boolRes_false (by omega) ?_; conv => whnf) | (refine boolRes_true rfl ?_; conv => whnf))
  (refine ⟨_, _, _, callG [(0, 12), (1, 112), (2, 113)] [] [] rfl rfl rfl (by kernel_rfl) (flush_spec s hs hw) (by repeat' (first | exact trivial | exact Lent.refl _ | exact Lent.norm _ | apply And.intro)) rfl ⟨rfl, rfl, rfl, rfl, rfl, by repeat' (first | exact trivial | rfl | apply And.intro), rfl, rfl⟩, ?_⟩; conv => whnf)
  refine W.leG (mp := [(4, 4), (12, 12)]) (bo := [113]) (st' := ⟨[(6, .bp 12 0), (4, .bp 4 0)], [(4, [.rows 5 [[.int .i64 0, .nils, .nils, .int .i64 0, .int .i64 0]] none]), (12, [s.flush.blk])], [4, 12]⟩)
    (LeG.mk' rfl rfl rfl (by repeat' (first | exact trivial | exact ⟨_, .refl _, rfl⟩ | apply And.intro)) (.cons 4 rfl rfl (.refl _) rfl (.cons 12 (b1 := .rows 5 [[.int .i64 s.flush.mem, .sl [] false, .sl (runRows s.flush.runs) false, .int .i64 s.flush.peak, .int .i64 s.flush.written]] none) rfl rfl (.rows _ _ _ (by repeat' (first | exact trivial | exact ⟨Lent.refl _, rfl⟩ | exact ⟨Lent.norm _, rfl⟩ | exact ⟨Lent.whole rfl rfl (by first | rfl | simp) rfl (by first | exact .inl rfl | exact .inr rfl), rfl⟩ | apply And.intro))) (by rw [hb]; rfl) .nil)) rfl rfl (by rw [hK]; rfl)) ?_
  repeat (first | refine W.seq ?_ | (refine W.reg env hN (by kernel_rfl) ?_; conv => whnf) | refine W.condT rfl ?_ | refine W.condF rfl ?_ | (refine W.skip ?_; conv => whnf) | (refine W.exit ?_; conv => whnf) | refine W.block ?_ | (refine fun (hlen : (_ : Nat) ≤ _) => ?_; conv => whnf) | (refine okFp_intro (by kernel_rfl) ?_; conv => whnf) | (refine And.intro rfl ?_; conv => whnf) | (refine And.intro (by omega) ?_; conv => whnf) | (refine rowAt_of rfl ?_; conv => whnf) | (refine boolRes_true (by omega) ?_; conv => whnf) | (refine boolRes_false (by omega) ?_; conv => whnf) | (refine boolRes_true rfl ?_; conv => whnf))
  (refine ⟨_, _, _, callG [] [(1, 19)] [] rfl rfl rfl (by kernel_rfl) (own_data s.flush hs') (by repeat' (first | exact trivial | exact Lent.refl _ | exact Lent.norm _ | apply And.intro)) rfl ⟨rfl, rfl, rfl, rfl, rfl, by repeat' (first | exact trivial | rfl | apply And.intro), rfl, rfl⟩, ?_⟩; conv => whnf)
  repeat (first | refine W.seq ?_ | (refine W.reg env hN (by kernel_rfl) ?_; conv => whnf) | refine W.condT rfl ?_ | refine W.condF rfl ?_ | (refine W.skip ?_; conv => whnf) | (refine W.exit ?_; conv => whnf) | refine W.block ?_ | (refine fun (hlen : (_ : Nat) ≤ _) => ?_; conv => whnf) | (refine okFp_intro (by kernel_rfl) ?_; conv => whnf) | (refine And.intro rfl ?_; conv => whnf) | (refine And.intro (by omega) ?_; conv => whnf) | (refine rowAt_of rfl ?_; conv => whnf) | (refine boolRes_true (by omega) ?_; conv => whnf) | (refine boolRes_false (by omega) ?_; conv => whnf) | (refine boolRes_true rfl ?_; conv => whnf) | (refine W.ret ?_; conv => whnf))
  exact ret0 rfl rfl rfl
set_option maxHeartbeats 2000000 in
theorem Flush_spec (s : Spill) (hs : s.Small) (hw : 0 ≤ s.written ∧ s.written ≤ 2305843009213693952) (hs' : s.flush.Small) (h : s.valid = true) : Spec Try.prog 16 [s.v] [] (.tup [s.flush.v, .int .i64 0]) [] := by
  refine Spec.body env Try.func16 rfl (by kernel_rfl) (Nat.le_of_ble_eq_true (by kernel_rfl)) (keysSub rfl) fun Γ hN hK => ?_; have hML : maxLen = 9223372036854775807 := by unfold maxLen; rfl
  repeat (first | refine W.seq ?_ | (refine W.reg env hN (by kernel_rfl) ?_; conv => whnf) | refine W.condT rfl ?_ | refine W.condF rfl ?_ | (refine W.skip ?_; conv => whnf) | (refine W.exit ?_; conv => whnf) | refine W.block ?_ | (refine fun (hlen : (_ : Nat) ≤ _) => ?_; conv => whnf) | (refine okFp_intro (by kernel_rfl) ?_; conv => whnf) | (refine And.intro rfl ?_; conv => whnf) | (refine And.intro (by omega) ?_; conv => whnf) | (refine rowAt_of rfl ?_; conv => whnf) | (refine boolRes_true (by omega) ?_; conv => whnf) | (refine boolRes_false (by omega) ?_; conv => whnf) | (refine boolRes_true rfl ?_; conv => whnf))
  (refine ⟨_, _, _, callG [] [] [] rfl rfl rfl (by kernel_rfl) (changedFlush_spec s hs hw hs' h) (by repeat' (first | exact trivial | exact Lent.refl _ | exact Lent.norm _ | apply And.intro)) rfl ⟨rfl, rfl, rfl, rfl, rfl, by repeat' (first | exact trivial | rfl | apply And.intro), rfl, rfl⟩, ?_⟩; conv => whnf)
  repeat (first | refine W.seq ?_ | (refine W.reg env hN (by kernel_rfl) ?_; conv => whnf) | refine W.condT rfl ?_ | refine W.condF rfl ?_ | (refine W.skip ?_; conv => whnf) | (refine W.exit ?_; conv => whnf) | refine W.block ?_ | (refine fun (hlen : (_ : Nat) ≤ _) => ?_; conv => whnf) | (refine okFp_intro (by kernel_rfl) ?_; conv => whnf) | (refine And.intro rfl ?_; conv => whnf) | (refine And.intro (by omega) ?_; conv => whnf) | (refine rowAt_of rfl ?_; conv => whnf) | (refine boolRes_true (by omega) ?_; conv => whnf) | (refine boolRes_false (by omega) ?_; conv => whnf) | (refine boolRes_true rfl ?_; conv => whnf) | (refine W.ret ?_; conv => whnf))
  exact ret0 rfl rfl rfl
set_option maxHeartbeats 2000000 in
theorem finishC_spec (s : Spill) (L : Nat) (hs : s.Small) (hw : 0 ≤ s.written ∧ s.written ≤ 2305843009213693952) (hl : s.flush.Lim L) :
    Spec Try.prog 38 [.bp 0 0, .bp 7 0] (s.hin ++ [(7, .rows 1 [[.nils]] none)]) (.tup []) [(0, s.fin.ownNil 50), (1, .gone), (2, .gone), (7, .rows 1 [[.sl (countRows s.out) false]] none), (50, .rows 1 (runRows s.fin.runs) (some []))] := by
  refine Spec.body env Try.func38 rfl (by kernel_rfl) (Nat.le_of_ble_eq_true (by kernel_rfl)) (keysSub rfl) fun Γ hN hK => ?_; have hML : maxLen = 9223372036854775807 := by unfold maxLen; rfl
  repeat (first | refine W.seq ?_ | (refine W.reg env hN (by kernel_rfl) ?_; conv => whnf) | refine W.condT rfl ?_ | refine W.condF rfl ?_ | (refine W.skip ?_; conv => whnf) | (refine W.exit ?_; conv => whnf) | refine W.block ?_ | (refine fun (hlen : (_ : Nat) ≤ _) => ?_; conv => whnf) | (refine okFp_intro (by kernel_rfl) ?_; conv => whnf) | (refine And.intro rfl ?_; conv => whnf) | (refine And.intro (by omega) ?_; conv => whnf) | (refine rowAt_of rfl ?_; conv => whnf) | (refine boolRes_true (by omega) ?_; conv => whnf) | (refine boolRes_false (by omega) ?_; conv => whnf) | (refine boolRes_true rfl ?_; conv => whnf))
  (refine ⟨_, _, _, callG [(0, 0), (1, 1), (2, 2)] [(50, 50)] [] rfl rfl rfl (by kernel_rfl) (finish_spec s L hs hw hl) (by repeat' (first | exact trivial | exact Lent.refl _ | exact Lent.norm _ | apply And.intro)) rfl ⟨rfl, rfl, rfl, rfl, rfl, by repeat' (first | exact trivial | rfl | apply And.intro), rfl, rfl⟩, ?_⟩; conv => whnf)
  repeat (first | refine W.seq ?_ | (refine W.reg env hN (by kernel_rfl) ?_; conv => whnf) | refine W.condT rfl ?_ | refine W.condF rfl ?_ | (refine W.skip ?_; conv => whnf) | (refine W.exit ?_; conv => whnf) | refine W.block ?_ | (refine fun (hlen : (_ : Nat) ≤ _) => ?_; conv => whnf) | (refine okFp_intro (by kernel_rfl) ?_; conv => whnf) | (refine And.intro rfl ?_; conv => whnf) | (refine And.intro (by omega) ?_; conv => whnf) | (refine rowAt_of rfl ?_; conv => whnf) | (refine boolRes_true (by omega) ?_; conv => whnf) | (refine boolRes_false (by omega) ?_; conv => whnf) | (refine boolRes_true rfl ?_; conv => whnf))
  exact retHn rfl (.refl _) rfl rfl rfl ⟨rfl, rfl, rfl, rfl, rfl, rfl, rfl, rfl, rfl, rfl, trivial⟩
set_option maxHeartbeats 2000000 in
theorem changedFinish_spec (s : Spill) (L : Nat) (hs : s.Small) (hw : 0 ≤ s.written ∧ s.written ≤ 2305843009213693952) (hl : s.flush.Lim L) (hs' : s.fin.Small) (h : s.valid = true) :
    Spec Try.prog 35 [s.v, .fn 38 [.bp 7 0]] [(7, .rows 1 [[.nils]] none)] (.tup [s.fin.v, .int .i64 0]) [(7, .rows 1 [[.sl (countRows s.out) false]] none)] := by
  have sp := valid_spec s
  rw [h] at sp
  have hb := blk_nil (fin_buf s)
  refine Spec.body env Try.func35 rfl (by kernel_rfl) (Nat.le_of_ble_eq_true (by kernel_rfl)) (keysSub rfl) fun Γ hN hK => ?_; have hML : maxLen = 9223372036854775807 := by unfold maxLen; rfl
  repeat (first | refine W.seq ?_ | (refine W.reg env hN (by kernel_rfl) ?_; conv => whnf) | refine W.condT rfl ?_ | refine W.condF rfl ?_ | (refine W.skip ?_; conv => whnf) | (refine W.exit ?_; conv => whnf) | refine W.block ?_ | (refine fun (hlen : (_ : Nat) ≤ _) => ?_; conv => whnf) | (refine okFp_intro (by kernel_rfl) ?_; conv => whnf) | (refine And.intro rfl ?_; conv => whnf) | (refine And.intro (by omega) ?_; conv => whnf) | (refine rowAt_of rfl ?_; conv => whnf) | (refine boolRes_true (by omega) ?_; conv => whnf) | (refine boolRes_false (by omega) ?_; conv => whnf) | (refine boolRes_true rfl ?_; conv => whnf))
  (refine ⟨_, _, _, callG [] [] [] rfl rfl rfl (by kernel_rfl) (sp) (by repeat' (first | exact trivial | exact Lent.refl _ | exact Lent.norm _ | apply And.intro)) rfl ⟨rfl, rfl, rfl, rfl, rfl, by repeat' (first | exact trivial | rfl | apply And.intro), rfl, rfl⟩, ?_⟩; conv => whnf)
  repeat (first | refine W.seq ?_ | (refine W.reg env hN (by kernel_rfl) ?_; conv => whnf) | refine W.condT rfl ?_ | refine W.condF rfl ?_ | (refine W.skip ?_; conv => whnf) | (refine W.exit ?_; conv => whnf) | refine W.block ?_ | (refine fun (hlen : (_ : Nat) ≤ _) => ?_; conv => whnf) | (refine okFp_intro (by kernel_rfl) ?_; conv => whnf) | (refine And.intro rfl ?_; conv => whnf) | (refine And.intro (by omega) ?_; conv => whnf) | (refine rowAt_of rfl ?_; conv => whnf) | (refine boolRes_true (by omega) ?_; conv => whnf) | (refine boolRes_false (by omega) ?_; conv => whnf) | (refine boolRes_true rfl ?_; conv => whnf))
  (refine ⟨_, _, _, callG [] [(1, 12), (7, 112), (11, 113)] [] rfl rfl rfl (by kernel_rfl) (own_own s hs) (by repeat' (first | exact trivial | exact Lent.refl _ | exact Lent.norm _ | apply And.intro)) rfl ⟨rfl, rfl, rfl, rfl, rfl, by repeat' (first | exact trivial | rfl | apply And.intro), rfl, rfl⟩, ?_⟩; conv => whnf)
  repeat (first | refine W.seq ?_ | (refine W.reg env hN (by kernel_rfl) ?_; conv => whnf) | refine W.condT rfl ?_ | refine W.condF rfl ?_ | (refine W.skip ?_; conv => whnf) | (refine W.exit ?_; conv => whnf) | refine W.block ?_ | (refine fun (hlen : (_ : Nat) ≤ _) => ?_; conv => whnf) | (refine okFp_intro (by kernel_rfl) ?_; conv => whnf) | (refine And.intro rfl ?_; conv => whnf) | (refine And.intro (by omega) ?_; conv => whnf) | (refine rowAt_of rfl ?_; conv => whnf) | (refine boolRes_true (by omega) ?_; conv => whnf) | (refine boolRes_false (by omega) ?_; conv => whnf) | (refine boolRes_true rfl ?_; conv => whnf))
  (refine ⟨_, _, _, callG [(0, 12), (1, 112), (2, 113), (7, 7)] [(50, 114)] [] rfl rfl rfl (by kernel_rfl) (finishC_spec s L hs hw hl) (by repeat' (first | exact trivial | exact Lent.refl _ | exact Lent.norm _ | apply And.intro)) rfl ⟨rfl, rfl, rfl, rfl, rfl, by repeat' (first | exact trivial | rfl | apply And.intro), rfl, rfl⟩, ?_⟩; conv => whnf)
  refine W.leG (mp := [(4, 4), (7, 7), (12, 12)]) (bo := [114]) (st' := ⟨[(6, .bp 12 0), (4, .bp 4 0)], [(4, [.rows 5 [[.int .i64 0, .nils, .nils, .int .i64 0, .int .i64 0]] none]), (7, [.rows 1 [[.sl (countRows s.out) false]] none]), (12, [s.fin.blk])], [4, 7, 12]⟩)
    (LeG.mk' rfl rfl rfl (by repeat' (first | exact trivial | exact ⟨_, .refl _, rfl⟩ | apply And.intro)) (.cons 4 rfl rfl (.refl _) rfl (.cons 7 rfl rfl (.refl _) rfl (.cons 12 (b1 := .rows 5 [[.int .i64 s.fin.mem, .sl [] false, .sl (runRows s.fin.runs) false, .int .i64 s.fin.peak, .int .i64 s.fin.written]] none) rfl rfl (.rows _ _ _ (by repeat' (first | exact trivial | exact ⟨Lent.refl _, rfl⟩ | exact ⟨Lent.norm _, rfl⟩ | exact ⟨Lent.whole rfl rfl (by first | rfl | simp) rfl (by first | exact .inl rfl | exact .inr rfl), rfl⟩ | apply And.intro))) (by rw [hb]; rfl) .nil))) rfl rfl (by rw [hK]; rfl)) ?_
  repeat (first | refine W.seq ?_ | (refine W.reg env hN (by kernel_rfl) ?_; conv => whnf) | refine W.condT rfl ?_ | refine W.condF rfl ?_ | (refine W.skip ?_; conv => whnf) | (refine W.exit ?_; conv => whnf) | refine W.block ?_ | (refine fun (hlen : (_ : Nat) ≤ _) => ?_; conv => whnf) | (refine okFp_intro (by kernel_rfl) ?_; conv => whnf) | (refine And.intro rfl ?_; conv => whnf) | (refine And.intro (by omega) ?_; conv => whnf) | (refine rowAt_of rfl ?_; conv => whnf) | (refine boolRes_true (by omega) ?_; conv => whnf) | (refine boolRes_false (by omega) ?_; conv => whnf) | (refine boolRes_true rfl ?_; conv => whnf))
  (refine ⟨_, _, _, callG [] [(1, 19)] [] rfl rfl rfl (by kernel_rfl) (own_data s.fin hs') (by repeat' (first | exact trivial | exact Lent.refl _ | exact Lent.norm _ | apply And.intro)) rfl ⟨rfl, rfl, rfl, rfl, rfl, by repeat' (first | exact trivial | rfl | apply And.intro), rfl, rfl⟩, ?_⟩; conv => whnf)
  repeat (first | refine W.seq ?_ | (refine W.reg env hN (by kernel_rfl) ?_; conv => whnf) | refine W.condT rfl ?_ | refine W.condF rfl ?_ | (refine W.skip ?_; conv => whnf) | (refine W.exit ?_; conv => whnf) | refine W.block ?_ | (refine fun (hlen : (_ : Nat) ≤ _) => ?_; conv => whnf) | (refine okFp_intro (by kernel_rfl) ?_; conv => whnf) | (refine And.intro rfl ?_; conv => whnf) | (refine And.intro (by omega) ?_; conv => whnf) | (refine rowAt_of rfl ?_; conv => whnf) | (refine boolRes_true (by omega) ?_; conv => whnf) | (refine boolRes_false (by omega) ?_; conv => whnf) | (refine boolRes_true rfl ?_; conv => whnf))
  (refine W.ret ?_; conv => whnf)
  exact retH rfl (.refl _) rfl rfl rfl ⟨rfl, rfl, trivial⟩
set_option maxHeartbeats 2000000 in
theorem Finish_spec (s : Spill) (L : Nat) (hs : s.Small) (hw : 0 ≤ s.written ∧ s.written ≤ 2305843009213693952) (hl : s.flush.Lim L) (hs' : s.fin.Small) (h : s.valid = true) :
    Spec Try.prog 14 [s.v] [] (.tup [.sl (countRows s.out) false, s.fin.v, .int .i64 0]) [] := by
  refine Spec.body env Try.func14 rfl (by kernel_rfl) (Nat.le_of_ble_eq_true (by kernel_rfl)) (keysSub rfl) fun Γ hN hK => ?_; have hML : maxLen = 9223372036854775807 := by unfold maxLen; rfl
  repeat (first | refine W.seq ?_ | (refine W.reg env hN (by kernel_rfl) ?_; conv => whnf) | refine W.condT rfl ?_ | refine W.condF rfl ?_ | (refine W.skip ?_; conv => whnf) | (refine W.exit ?_; conv => whnf) | refine W.block ?_ | (refine fun (hlen : (_ : Nat) ≤ _) => ?_; conv => whnf) | (refine okFp_intro (by kernel_rfl) ?_; conv => whnf) | (refine And.intro rfl ?_; conv => whnf) | (refine And.intro (by omega) ?_; conv => whnf) | (refine rowAt_of rfl ?_; conv => whnf) | (refine boolRes_true (by omega) ?_; conv => whnf) | (refine boolRes_false (by omega) ?_; conv => whnf) | (refine boolRes_true rfl ?_; conv => whnf))
  (refine ⟨_, _, _, callG [(7, 5)] [] [] rfl rfl rfl (by kernel_rfl) (changedFinish_spec s L hs hw hl hs' h) (by repeat' (first | exact trivial | exact Lent.refl _ | exact Lent.norm _ | apply And.intro)) rfl ⟨rfl, rfl, rfl, rfl, rfl, by repeat' (first | exact trivial | rfl | apply And.intro), rfl, rfl⟩, ?_⟩; conv => whnf)
  repeat (first | refine W.seq ?_ | (refine W.reg env hN (by kernel_rfl) ?_; conv => whnf) | refine W.condT rfl ?_ | refine W.condF rfl ?_ | (refine W.skip ?_; conv => whnf) | (refine W.exit ?_; conv => whnf) | refine W.block ?_ | (refine fun (hlen : (_ : Nat) ≤ _) => ?_; conv => whnf) | (refine okFp_intro (by kernel_rfl) ?_; conv => whnf) | (refine And.intro rfl ?_; conv => whnf) | (refine And.intro (by omega) ?_; conv => whnf) | (refine rowAt_of rfl ?_; conv => whnf) | (refine boolRes_true (by omega) ?_; conv => whnf) | (refine boolRes_false (by omega) ?_; conv => whnf) | (refine boolRes_true rfl ?_; conv => whnf) | (refine W.ret ?_; conv => whnf))
  exact ret0 rfl rfl rfl
end Go.Sx.Sp
namespace Go.Sx.Sp
open Go Go.Sx Go.Proofs
attribute [local irreducible] GoodW
def diceB (s : List Int) (p : Nat) : Blk := .rows 2 [[.sl (intRows .u8 s) false, .int .i64 p]] none
def Bytes (s : List Int) : Prop := ∀ x ∈ s, 0 ≤ x ∧ x ≤ 255
def pickV (s : List Int) (p : Nat) (n : Int) : Int := match s[p]? with | some x => x % n | none => 0
def pickP (s : List Int) (p : Nat) : Nat := match s[p]? with | some _ => p + 1 | none => p
theorem intRows_len (k : IntKind) (l : List Int) : (intRows k l).length = l.length := by simp [intRows]
theorem intRows_sz (k : IntKind) (l : List Int) : rowsSz (intRows k l) 1 := by
  unfold rowsSz
  intro r hr
  obtain ⟨c, _, rfl⟩ := List.mem_map.1 hr
  rfl
theorem pickV_range {s : List Int} (hs : Bytes s) (p : Nat) {n : Int} (hn : 1 ≤ n) : 0 ≤ pickV s p n ∧ pickV s p n < n := by
  unfold pickV
  split
  · exact ⟨Int.emod_nonneg _ (by omega), Int.emod_lt_of_pos _ (by omega)⟩
  · omega
set_option maxHeartbeats 2000000 in
theorem pick_spec (s : List Int) (p : Nat) (n : Int) (hs : Bytes s) (hn : 1 ≤ n ∧ n ≤ 9223372036854775807) (hp : p ≤ 4294967296) : Spec Try.prog 15 [.bp 0 0, .int .i64 n] [(0, diceB s p)] (.int .i64 (pickV s p n)) [(0, diceB s (pickP s p))] := by
  have hl := intRows_len .u8 s
  rcases hq : s[p]? with _ | x
  · have hge : s.length ≤ p := List.getElem?_eq_none_iff.1 hq
    have e1 : pickV s p n = 0 := by simp only [pickV, hq]
    have e2 : pickP s p = p := by simp only [pickP, hq]
    rw [e1, e2]
    refine Spec.body env Try.func15 rfl (by kernel_rfl) (Nat.le_of_ble_eq_true (by kernel_rfl)) (keysSub rfl) fun Γ hN hK => ?_; have hML : maxLen = 9223372036854775807 := by unfold maxLen; rfl
    repeat (first | refine W.seq ?_ | (refine W.reg env hN (by kernel_rfl) ?_; conv => whnf) | refine W.condT rfl ?_ | refine W.condF rfl ?_ | (refine W.skip ?_; conv => whnf) | (refine W.exit ?_; conv => whnf) | refine W.block ?_ | (refine fun (hlen : (_ : Nat) ≤ _) => ?_; conv => whnf) | (refine okFp_intro (by kernel_rfl) ?_; conv => whnf) | (refine And.intro rfl ?_; conv => whnf) | (refine And.intro (by omega) ?_; conv => whnf) | (refine rowAt_of rfl ?_; conv => whnf) | (refine boolRes_true (by omega) ?_; conv => whnf) | (refine boolRes_false (by omega) ?_; conv => whnf) | (refine boolRes_true rfl ?_; conv => whnf))
    (refine W.ret ?_; conv => whnf)
    exact retH rfl (.refl _) rfl rfl rfl ⟨rfl, rfl, trivial⟩
  · have hlt : p < s.length := (List.getElem?_eq_some_iff.1 hq).1
    have hx := hs x (List.mem_of_getElem? hq)
    have e1 : pickV s p n = x % n := by simp only [pickV, hq]
    have e2 : pickP s p = p + 1 := by simp only [pickP, hq]
    have hget : (intRows .u8 s)[((p : Int) + (1 : Nat) - (1 : Nat)).toNat]? = some [.int .u8 x] := by
      rw [show ((p : Int) + (1 : Nat) - (1 : Nat)).toNat = p by omega]; simp [intRows, hq]
    rw [e1, e2]
    refine Spec.body env Try.func15 rfl (by kernel_rfl) (Nat.le_of_ble_eq_true (by kernel_rfl)) (keysSub rfl) fun Γ hN hK => ?_; have hML : maxLen = 9223372036854775807 := by unfold maxLen; rfl
    repeat (first | refine W.seq ?_ | (refine W.reg env hN (by kernel_rfl) ?_; conv => whnf) | refine W.condT rfl ?_ | refine W.condF rfl ?_ | (refine W.skip ?_; conv => whnf) | (refine W.exit ?_; conv => whnf) | refine W.block ?_ | (refine fun (hlen : (_ : Nat) ≤ _) => ?_; conv => whnf) | (refine okFp_intro (by kernel_rfl) ?_; conv => whnf) | (refine And.intro rfl ?_; conv => whnf) | (refine And.intro (by omega) ?_; conv => whnf) | (refine rowAt_of rfl ?_; conv => whnf) | (refine boolRes_true (by omega) ?_; conv => whnf) | (refine boolRes_false (by omega) ?_; conv => whnf) | (refine boolRes_true rfl ?_; conv => whnf))
    refine rowAt_of hget ?_
    conv => whnf
    repeat (first | refine W.seq ?_ | (refine W.reg env hN (by kernel_rfl) ?_; conv => whnf) | refine W.condT rfl ?_ | refine W.condF rfl ?_ | (refine W.skip ?_; conv => whnf) | (refine W.exit ?_; conv => whnf) | refine W.block ?_ | (refine fun (hlen : (_ : Nat) ≤ _) => ?_; conv => whnf) | (refine okFp_intro (by kernel_rfl) ?_; conv => whnf) | (refine And.intro rfl ?_; conv => whnf) | (refine And.intro (by omega) ?_; conv => whnf) | (refine rowAt_of rfl ?_; conv => whnf) | (refine boolRes_true (by omega) ?_; conv => whnf) | (refine boolRes_false (by omega) ?_; conv => whnf) | (refine boolRes_true rfl ?_; conv => whnf))
    (refine W.ret ?_; conv => whnf)
    exact retH rfl (.of_eq (by show V.int .i64 (x.tmod n) = _; rw [Int.tmod_eq_emod_of_nonneg hx.1])) rfl rfl rfl ⟨rfl, rfl, trivial⟩
set_option maxHeartbeats 2000000 in
theorem dice_spec (s : List Int) : Spec Try.prog 9 [.sl (intRows .u8 s) false] [] (.bp 10 0) [(10, diceB (s.take 300) 0)] := by
  have hl := intRows_len .u8 s
  refine Spec.body env Try.func9 rfl (by kernel_rfl) (Nat.le_of_ble_eq_true (by kernel_rfl)) (keysSub rfl) fun Γ hN hK => ?_; have hML : maxLen = 9223372036854775807 := by unfold maxLen; rfl
  repeat (first | refine W.seq ?_ | (refine W.reg env hN (by kernel_rfl) ?_; conv => whnf) | refine W.condT rfl ?_ | refine W.condF rfl ?_ | (refine W.skip ?_; conv => whnf) | (refine W.exit ?_; conv => whnf) | refine W.block ?_ | (refine fun (hlen : (_ : Nat) ≤ _) => ?_; conv => whnf) | (refine okFp_intro (by kernel_rfl) ?_; conv => whnf) | (refine And.intro rfl ?_; conv => whnf) | (refine And.intro (by omega) ?_; conv => whnf) | (refine rowAt_of rfl ?_; conv => whnf) | (refine boolRes_true (by omega) ?_; conv => whnf) | (refine boolRes_false (by omega) ?_; conv => whnf) | (refine boolRes_true rfl ?_; conv => whnf))
  refine boolRes_split (fun hb => ?_) (fun hb => ?_) <;> conv => whnf
  · have ht : ((intRows .u8 s).take (300 : Int).toNat).drop (0 : Int).toNat = intRows .u8 (s.take 300) := by simp [intRows, List.map_take]
    repeat (first | refine W.seq ?_ | (refine W.reg env hN (by kernel_rfl) ?_; conv => whnf) | refine W.condT rfl ?_ | refine W.condF rfl ?_ | (refine W.skip ?_; conv => whnf) | (refine W.exit ?_; conv => whnf) | refine W.block ?_ | (refine fun (hlen : (_ : Nat) ≤ _) => ?_; conv => whnf) | (refine okFp_intro (by kernel_rfl) ?_; conv => whnf) | (refine And.intro rfl ?_; conv => whnf) | (refine And.intro (by omega) ?_; conv => whnf) | (refine rowAt_of rfl ?_; conv => whnf) | (refine boolRes_true (by omega) ?_; conv => whnf) | (refine boolRes_false (by omega) ?_; conv => whnf) | (refine boolRes_true rfl ?_; conv => whnf))
    refine ⟨intRows_sz _ _, ?_⟩
    conv => whnf
    repeat (first | refine W.seq ?_ | (refine W.reg env hN (by kernel_rfl) ?_; conv => whnf) | refine W.condT rfl ?_ | refine W.condF rfl ?_ | (refine W.skip ?_; conv => whnf) | (refine W.exit ?_; conv => whnf) | refine W.block ?_ | (refine fun (hlen : (_ : Nat) ≤ _) => ?_; conv => whnf) | (refine okFp_intro (by kernel_rfl) ?_; conv => whnf) | (refine And.intro rfl ?_; conv => whnf) | (refine And.intro (by omega) ?_; conv => whnf) | (refine rowAt_of rfl ?_; conv => whnf) | (refine boolRes_true (by omega) ?_; conv => whnf) | (refine boolRes_false (by omega) ?_; conv => whnf) | (refine boolRes_true rfl ?_; conv => whnf))
    (refine W.ret ?_; conv => whnf)
    exact retH rfl (.refl _) rfl rfl rfl ⟨(by
      show [Blk.rows 2 [[.sl (List.drop (0 : Int).toNat (List.take (300 : Int).toNat (intRows .u8 s))) false, .int .i64 0]] none] = _
      rw [ht]; rfl), rfl, trivial⟩
  · have ht : s.take 300 = s := List.take_of_length_le (by omega)
    rw [ht]
    repeat (first | refine W.seq ?_ | (refine W.reg env hN (by kernel_rfl) ?_; conv => whnf) | refine W.condT rfl ?_ | refine W.condF rfl ?_ | (refine W.skip ?_; conv => whnf) | (refine W.exit ?_; conv => whnf) | refine W.block ?_ | (refine fun (hlen : (_ : Nat) ≤ _) => ?_; conv => whnf) | (refine okFp_intro (by kernel_rfl) ?_; conv => whnf) | (refine And.intro rfl ?_; conv => whnf) | (refine And.intro (by omega) ?_; conv => whnf) | (refine rowAt_of rfl ?_; conv => whnf) | (refine boolRes_true (by omega) ?_; conv => whnf) | (refine boolRes_false (by omega) ?_; conv => whnf) | (refine boolRes_true rfl ?_; conv => whnf))
    (refine W.ret ?_; conv => whnf)
    exact retH rfl (.refl _) rfl rfl rfl ⟨rfl, rfl, trivial⟩
def strRows (l : List (List UInt8)) : List (List V) := l.map fun t => [.str t]
theorem strRows_len (l : List (List UInt8)) : (strRows l).length = l.length := by simp [strRows]
def words : List (List UInt8) := [[97, 110, 110], [98, 111, 98], [99, 121], [66, 101, 114, 110], [85, 108, 109], [78, 101, 119, 32, 89, 111, 114, 107], [121, 111, 114, 107, 32, 110, 101, 119], [97, 45, 49], [98, 45, 50, 50], [120], [122, 195, 188, 114, 105, 99, 104], [65, 110, 110], [98, 111], [99, 97, 116], [98, 97, 116], [114, 97, 116]]
set_option maxHeartbeats 2000000 in
theorem words_spec : Spec Try.prog 33 [] [] (.sl (strRows words) false) [] := by
  refine Spec.body env Try.func33 rfl (by kernel_rfl) (Nat.le_of_ble_eq_true (by kernel_rfl)) (keysSub rfl) fun Γ hN hK => ?_; have hML : maxLen = 9223372036854775807 := by unfold maxLen; rfl
  repeat (first | refine W.seq ?_ | (refine W.reg env hN (by kernel_rfl) ?_; conv => whnf) | refine W.condT rfl ?_ | refine W.condF rfl ?_ | (refine W.skip ?_; conv => whnf) | (refine W.exit ?_; conv => whnf) | refine W.block ?_ | (refine fun (hlen : (_ : Nat) ≤ _) => ?_; conv => whnf) | (refine okFp_intro (by kernel_rfl) ?_; conv => whnf) | (refine And.intro rfl ?_; conv => whnf) | (refine And.intro (by omega) ?_; conv => whnf) | (refine rowAt_of rfl ?_; conv => whnf) | (refine boolRes_true (by omega) ?_; conv => whnf) | (refine boolRes_false (by omega) ?_; conv => whnf) | (refine boolRes_true rfl ?_; conv => whnf))
  refine W.leG (mp := []) (bo := [1]) (st' := ⟨[(0, .sl (strRows words) false)], [], []⟩) (LeG.mk' rfl rfl rfl ⟨⟨_, Lent.whole rfl rfl rfl rfl (.inr rfl), rfl⟩, trivial⟩ .nil rfl rfl (by rw [hK]; rfl)) ?_
  (refine W.ret ?_; conv => whnf)
  exact ret0 rfl rfl rfl
def textsN (s : List Int) : Nat → Nat → List (List UInt8) × Nat
  | 0, p => ([], p)
  | n + 1, p => let r := textsN s n (pickP s p); ((words.getD (pickV s p 16).toNat [] :: r.1), r.2)
def texts (s : List Int) (p most : Nat) : List (List UInt8) × Nat := textsN s (pickV s p (most + 1 : Nat)).toNat (pickP s p)
theorem pickP_le (s : List Int) (p : Nat) : pickP s p ≤ p + 1 := by unfold pickP; split <;> omega
theorem textsN_len (s : List Int) : ∀ n p, (textsN s n p).1.length = n
  | 0, _ => rfl
  | n + 1, p => by simp only [textsN, List.length_cons, textsN_len s n]
theorem textsN_le (s : List Int) : ∀ n p, (textsN s n p).2 ≤ p + n
  | 0, _ => by simp [textsN]
  | n + 1, p => by
    have := textsN_le s n (pickP s p)
    have := pickP_le s p
    simp only [textsN]; omega
theorem words_get {i : Nat} (h : i < 16) : words[i]? = some (words.getD i []) := by
  have : words.length = 16 := rfl
  rw [List.getD_eq_getElem?_getD, List.getElem?_eq_getElem (by omega)]; rfl
set_option maxHeartbeats 4000000 in
theorem texts_spec (s : List Int) (p most : Nat) (hs : Bytes s) (hp : p ≤ 65536) (hm : most ≤ 65536) : Spec Try.prog 10 [.bp 0 0, .int .i64 most] [(0, diceB s p)] (.sl (strRows (texts s p most).1) false) [(0, diceB s (texts s p most).2)] := by
  have hr := pickV_range hs p (n := ((most + 1 : Nat) : Int)) (by omega)
  have hpp := pickP_le s p
  have sp := pick_spec s p ((most + 1 : Nat) : Int) hs (by omega) (by omega)
  obtain ⟨c, hc⟩ := Int.eq_ofNat_of_zero_le hr.1
  have htx : texts s p most = textsN s c (pickP s p) := by unfold texts; rw [hc, Int.toNat_natCast]
  rw [hc] at sp hr
  rw [htx]
  generalize pickP s p = p1 at *
  clear htx hc
  refine Spec.body env Try.func10 rfl (by kernel_rfl) (Nat.le_of_ble_eq_true (by kernel_rfl)) (keysSub rfl) fun Γ hN hK => ?_; have hML : maxLen = 9223372036854775807 := by unfold maxLen; rfl
  repeat (first | refine W.seq ?_ | (refine W.reg env hN (by kernel_rfl) ?_; conv => whnf) | refine W.condT rfl ?_ | refine W.condF rfl ?_ | (refine W.skip ?_; conv => whnf) | (refine W.exit ?_; conv => whnf) | refine W.block ?_ | (refine fun (hlen : (_ : Nat) ≤ _) => ?_; conv => whnf) | (refine okFp_intro (by kernel_rfl) ?_; conv => whnf) | (refine And.intro rfl ?_; conv => whnf) | (refine And.intro (by omega) ?_; conv => whnf) | (refine rowAt_of rfl ?_; conv => whnf) | (refine boolRes_true (by omega) ?_; conv => whnf) | (refine boolRes_false (by omega) ?_; conv => whnf) | (refine boolRes_true rfl ?_; conv => whnf))
  (refine ⟨_, _, _, callG [(0, 0)] [] [] rfl rfl rfl (by kernel_rfl) (sp) (by repeat' (first | exact trivial | exact Lent.refl _ | exact Lent.norm _ | apply And.intro)) rfl ⟨rfl, rfl, rfl, rfl, rfl, by repeat' (first | exact trivial | rfl | apply And.intro), rfl, rfl⟩, ?_⟩; conv => whnf)
  repeat (first | refine W.seq ?_ | (refine W.reg env hN (by kernel_rfl) ?_; conv => whnf) | (refine W.skip ?_; conv => whnf) | (refine W.exit ?_; conv => whnf) | refine W.block ?_ | (refine fun (hlen : (_ : Nat) ≤ _) => ?_; conv => whnf) | (refine okFp_intro (by kernel_rfl) ?_; conv => whnf) | (refine And.intro rfl ?_; conv => whnf) | (refine And.intro (by omega) ?_; conv => whnf) | (refine rowAt_of rfl ?_; conv => whnf) | (refine boolRes_true (by omega) ?_; conv => whnf) | (refine boolRes_false (by omega) ?_; conv => whnf) | (refine boolRes_true rfl ?_; conv => whnf))
  refine W.ownNil 5 60 1 rfl rfl ?_
  refine W.loopG (fun n st => ∃ (k q : Nat) (out : List (List UInt8)), k ≤ 65536 ∧ q ≤ p + 1 + out.length ∧ textsN s c p1 = (out ++ (textsN s k q).1, (textsN s k q).2) ∧ out.length + k ≤ 65537 ∧ n = k ∧ st = ⟨[(0, .bp 0 0), (5, .osl 60 0 0 (strRows out).length (strRows out).length), (6, .int .i64 k)], [(0, [diceB s q]), (60, [.rows 1 (strRows out) (some [])])], [0, 60]⟩)
    c _ ⟨c, p1, [], by omega, by simp; omega, rfl, by simp; omega, rfl, rfl⟩ ⟨[(0, 0), (60, 60)], [], [], LeG.mk' rfl rfl rfl (by repeat' (first | exact trivial | exact ⟨_, .refl _, rfl⟩ | apply And.intro)) (.cons 0 rfl rfl (.refl _) rfl (.cons 60 rfl rfl (.refl _) rfl .nil)) rfl rfl (by rw [hK]; rfl)⟩ ?_
  rintro n st ⟨k, q, out, hk, hq, he, ho, rfl, rfl⟩
  have hol := strRows_len out
  rcases n with _ | k
  · have h0 : ((0 : Nat) : Int) = 0 := rfl
    repeat (first | refine W.seq ?_ | (refine W.reg env hN (by kernel_rfl) ?_; conv => whnf) | refine W.condT rfl ?_ | refine W.condF rfl ?_ | (refine W.skip ?_; conv => whnf) | (refine W.exit ?_; conv => whnf) | refine W.block ?_ | (refine fun (hlen : (_ : Nat) ≤ _) => ?_; conv => whnf) | (refine okFp_intro (by kernel_rfl) ?_; conv => whnf) | (refine And.intro rfl ?_; conv => whnf) | (refine And.intro (by omega) ?_; conv => whnf) | (refine rowAt_of rfl ?_; conv => whnf) | (refine boolRes_true (by omega) ?_; conv => whnf) | (refine boolRes_false (by omega) ?_; conv => whnf) | (refine boolRes_true rfl ?_; conv => whnf))
    refine W.leG (mp := [(0, 0)]) (bo := [60]) (st' := ⟨[(4, .sl (strRows out) false)], [(0, [diceB s q])], [0]⟩) (LeG.mk' rfl rfl rfl ⟨⟨_, Lent.whole rfl rfl rfl rfl (.inl rfl), rfl⟩, trivial⟩ (.cons 0 rfl rfl (.refl _) rfl .nil) rfl rfl (by rw [hK]; rfl)) ?_
    (refine W.ret ?_; conv => whnf)
    simp only [textsN, List.append_nil] at he
    rw [he]
    exact retH rfl (.refl _) rfl rfl rfl ⟨rfl, rfl, trivial⟩
  · have sp2 := pick_spec s q 16 hs (by omega) (by omega)
    have hr2 := pickV_range hs q (n := 16) (by omega)
    have hq2 := pickP_le s q
    obtain ⟨i, hi⟩ := Int.eq_ofNat_of_zero_le hr2.1
    rw [hi] at sp2 hr2
    simp only [textsN, hi, Int.toNat_natCast] at he
    generalize pickP s q = q1 at *
    have hwi : words[i]? = some (words.getD i []) := words_get (by omega)
    generalize words.getD i [] = wd at *
    have hget : (strRows words)[i]? = some [.str wd] := by simp [strRows, hwi]
    repeat (first | refine W.seq ?_ | (refine W.reg env hN (by kernel_rfl) ?_; conv => whnf) | refine W.condT rfl ?_ | refine W.condF rfl ?_ | (refine W.skip ?_; conv => whnf) | (refine W.exit ?_; conv => whnf) | refine W.block ?_ | (refine fun (hlen : (_ : Nat) ≤ _) => ?_; conv => whnf) | (refine okFp_intro (by kernel_rfl) ?_; conv => whnf) | (refine And.intro rfl ?_; conv => whnf) | (refine And.intro (by omega) ?_; conv => whnf) | (refine rowAt_of rfl ?_; conv => whnf) | (refine boolRes_true (by omega) ?_; conv => whnf) | (refine boolRes_false (by omega) ?_; conv => whnf) | (refine boolRes_true rfl ?_; conv => whnf))
    (refine ⟨_, _, _, callG [] [] [] rfl rfl rfl (by kernel_rfl) (words_spec) (by repeat' (first | exact trivial | exact Lent.refl _ | exact Lent.norm _ | apply And.intro)) rfl ⟨rfl, rfl, rfl, rfl, rfl, by repeat' (first | exact trivial | rfl | apply And.intro), rfl, rfl⟩, ?_⟩; conv => whnf)
    repeat (first | refine W.seq ?_ | (refine W.reg env hN (by kernel_rfl) ?_; conv => whnf) | refine W.condT rfl ?_ | refine W.condF rfl ?_ | (refine W.skip ?_; conv => whnf) | (refine W.exit ?_; conv => whnf) | refine W.block ?_ | (refine fun (hlen : (_ : Nat) ≤ _) => ?_; conv => whnf) | (refine okFp_intro (by kernel_rfl) ?_; conv => whnf) | (refine And.intro rfl ?_; conv => whnf) | (refine And.intro (by omega) ?_; conv => whnf) | (refine rowAt_of rfl ?_; conv => whnf) | (refine boolRes_true (by omega) ?_; conv => whnf) | (refine boolRes_false (by omega) ?_; conv => whnf) | (refine boolRes_true rfl ?_; conv => whnf))
    (refine ⟨_, _, _, callG [] [] [] rfl rfl rfl (by kernel_rfl) (words_spec) (by repeat' (first | exact trivial | exact Lent.refl _ | exact Lent.norm _ | apply And.intro)) rfl ⟨rfl, rfl, rfl, rfl, rfl, by repeat' (first | exact trivial | rfl | apply And.intro), rfl, rfl⟩, ?_⟩; conv => whnf)
    repeat (first | refine W.seq ?_ | (refine W.reg env hN (by kernel_rfl) ?_; conv => whnf) | refine W.condT rfl ?_ | refine W.condF rfl ?_ | (refine W.skip ?_; conv => whnf) | (refine W.exit ?_; conv => whnf) | refine W.block ?_ | (refine fun (hlen : (_ : Nat) ≤ _) => ?_; conv => whnf) | (refine okFp_intro (by kernel_rfl) ?_; conv => whnf) | (refine And.intro rfl ?_; conv => whnf) | (refine And.intro (by omega) ?_; conv => whnf) | (refine rowAt_of rfl ?_; conv => whnf) | (refine boolRes_true (by omega) ?_; conv => whnf) | (refine boolRes_false (by omega) ?_; conv => whnf) | (refine boolRes_true rfl ?_; conv => whnf))
    (refine ⟨_, _, _, callG [(0, 0)] [] [] rfl rfl rfl (by kernel_rfl) (sp2) (by repeat' (first | exact trivial | exact Lent.refl _ | exact Lent.norm _ | apply And.intro)) rfl ⟨rfl, rfl, rfl, rfl, rfl, by repeat' (first | exact trivial | rfl | apply And.intro), rfl, rfl⟩, ?_⟩; conv => whnf)
    repeat (first | refine W.seq ?_ | (refine W.reg env hN (by kernel_rfl) ?_; conv => whnf) | refine W.condT rfl ?_ | refine W.condF rfl ?_ | (refine W.skip ?_; conv => whnf) | (refine W.exit ?_; conv => whnf) | refine W.block ?_ | (refine fun (hlen : (_ : Nat) ≤ _) => ?_; conv => whnf) | (refine okFp_intro (by kernel_rfl) ?_; conv => whnf) | (refine And.intro rfl ?_; conv => whnf) | (refine And.intro (by omega) ?_; conv => whnf) | (refine rowAt_of rfl ?_; conv => whnf) | (refine boolRes_true (by omega) ?_; conv => whnf) | (refine boolRes_false (by omega) ?_; conv => whnf) | (refine boolRes_true rfl ?_; conv => whnf))
    refine rowAt_of hget ?_
    conv => whnf
    repeat (first | refine W.seq ?_ | (refine W.reg env hN (by kernel_rfl) ?_; conv => whnf) | refine W.condT rfl ?_ | refine W.condF rfl ?_ | (refine W.skip ?_; conv => whnf) | (refine W.exit ?_; conv => whnf) | refine W.block ?_ | (refine fun (hlen : (_ : Nat) ≤ _) => ?_; conv => whnf) | (refine okFp_intro (by kernel_rfl) ?_; conv => whnf) | (refine And.intro rfl ?_; conv => whnf) | (refine And.intro (by omega) ?_; conv => whnf) | (refine rowAt_of rfl ?_; conv => whnf) | (refine boolRes_true (by omega) ?_; conv => whnf) | (refine boolRes_false (by omega) ?_; conv => whnf) | (refine boolRes_true rfl ?_; conv => whnf))
    refine ⟨⟨rfl, rfl⟩, ⟨?_, ?_⟩, .inl ⟨rfl, rfl, ?_⟩⟩
    · show ((strRows out).length + 1) * 16 ≤ _; omega
    · show (strRows out).length + 1 ≤ _; omega
    conv => whnf
    repeat (first | refine W.seq ?_ | (refine W.reg env hN (by kernel_rfl) ?_; conv => whnf) | refine W.condT rfl ?_ | refine W.condF rfl ?_ | (refine W.skip ?_; conv => whnf) | (refine W.exit ?_; conv => whnf) | refine W.block ?_ | (refine fun (hlen : (_ : Nat) ≤ _) => ?_; conv => whnf) | (refine okFp_intro (by kernel_rfl) ?_; conv => whnf) | (refine And.intro rfl ?_; conv => whnf) | (refine And.intro (by omega) ?_; conv => whnf) | (refine rowAt_of rfl ?_; conv => whnf) | (refine boolRes_true (by omega) ?_; conv => whnf) | (refine boolRes_false (by omega) ?_; conv => whnf) | (refine boolRes_true rfl ?_; conv => whnf))
    have h1 : strRows out ++ [[V.str wd]] = strRows (out ++ [wd]) := by simp [strRows]
    have h2 : (strRows (out ++ [wd])).length = (strRows out).length + 1 := by simp [strRows]
    refine ⟨_, _, ?_, ⟨k, q1, out ++ [wd], by omega, by simp; omega, by rw [he]; simp, by simp; omega, rfl, rfl⟩, [(0, 0), (60, 60)], [], [], LeG.mk' rfl rfl rfl ⟨⟨_, .refl _, rfl⟩, ⟨_, .refl _, (by show V.osl 60 0 0 ((strRows out).length + 1) ((strRows out).length + 1) = _; rw [h2])⟩, ⟨_, .refl _, (by show V.int .i64 (((k + 1 : Nat) : Int) - (1 : Nat)) = _; rw [show (((k + 1 : Nat) : Int) - (1 : Nat)) = k by omega])⟩, trivial⟩
      (.cons 0 rfl rfl (.refl _) rfl (.cons 60 rfl rfl (.refl _) (by show _ = [Blk.rows 1 (strRows out ++ [[.str wd]]) (some [])]; rw [h1]) .nil)) rfl rfl (by rw [hK]; rfl)⟩
    omega
end Go.Sx.Sp
namespace Go.Sx.Sp
open Go Go.Sx Go.Proofs
attribute [local irreducible] GoodW
def rankS (out : List (List UInt8)) (t : List UInt8) : Nat := (out.takeWhile fun u => Op.bytesLess u t).length
def setIns (out : List (List UInt8)) (t : List UInt8) : List (List UInt8) := if out[rankS out t]? = some t then out else out.take (rankS out t) ++ t :: out.drop (rankS out t)
def setOf (l : List (List UInt8)) : List (List UInt8) := l.foldl setIns []
theorem rankS_eq {t : List UInt8} : ∀ {out : List (List UInt8)} {k : Nat}, k ≤ out.length → (∀ i u, i < k → out[i]? = some u → Op.bytesLess u t = true) → (∀ u, out[k]? = some u → Op.bytesLess u t = false) → rankS out t = k
  | [], k, h, _, _ => by simp at h; simp [rankS, h]
  | v :: out, 0, _, _, h2 => by
    have := h2 v rfl
    simp [rankS, List.takeWhile_cons, this]
  | v :: out, k + 1, h, h1, h2 => by
    have hv := h1 0 v (by omega) rfl
    have := rankS_eq (t := t) (out := out) (k := k) (by simpa using h) (fun i u hi hu => h1 (i + 1) u (by omega) (by simpa using hu)) (fun u hu => h2 u (by simpa using hu))
    simp only [rankS] at this ⊢
    rw [List.takeWhile_cons, if_pos hv, List.length_cons, this]
theorem setIns_len (out : List (List UInt8)) (t : List UInt8) : (setIns out t).length ≤ out.length + 1 := by
  unfold setIns; split <;> simp; omega
set_option maxHeartbeats 4000000 in
theorem set_spec (l : List (List UInt8)) (hl : l.length ≤ 65536) : Spec Try.prog 11 [.sl (strRows l) false] [] (.sl (strRows (setOf l)) false) [] := by
  have hll := strRows_len l
  refine Spec.body env Try.func11 rfl (by kernel_rfl) (Nat.le_of_ble_eq_true (by kernel_rfl)) (keysSub rfl) fun Γ hN hK => ?_; have hML : maxLen = 9223372036854775807 := by unfold maxLen; rfl
  repeat (first | refine W.seq ?_ | (refine W.reg env hN (by kernel_rfl) ?_; conv => whnf) | (refine W.skip ?_; conv => whnf) | (refine W.exit ?_; conv => whnf) | refine W.block ?_ | (refine fun (hlen : (_ : Nat) ≤ _) => ?_; conv => whnf) | (refine okFp_intro (by kernel_rfl) ?_; conv => whnf) | (refine And.intro rfl ?_; conv => whnf) | (refine And.intro (by omega) ?_; conv => whnf) | (refine rowAt_of rfl ?_; conv => whnf) | (refine boolRes_true (by omega) ?_; conv => whnf) | (refine boolRes_false (by omega) ?_; conv => whnf) | (refine boolRes_true rfl ?_; conv => whnf))
  refine W.ownNil 3 60 1 rfl rfl ?_
  refine W.loopG (fun n st => ∃ (j : Nat) (out : List (List UInt8)), j ≤ l.length ∧ out.length ≤ j ∧ setOf l = (l.drop j).foldl setIns out ∧ n = l.length - j ∧ st = ⟨[(3, .osl 60 0 0 (strRows out).length (strRows out).length), (7, .sl (strRows l) false), (8, .int .i64 (strRows l).length), (9, .int .i64 j)], [(60, [.rows 1 (strRows out) (some [])])], [60]⟩)
    l.length _ ⟨0, [], by omega, by simp, rfl, rfl, rfl⟩ ⟨[(60, 60)], [], [], LeG.mk' rfl rfl rfl (by repeat' (first | exact trivial | exact ⟨_, .refl _, rfl⟩ | apply And.intro)) (.cons 60 rfl rfl (.refl _) rfl .nil) rfl rfl (by rw [hK]; rfl)⟩ ?_
  rintro n st ⟨j, out, hj, ho, he, rfl, rfl⟩
  have hol := strRows_len out
  repeat (first | refine W.seq ?_ | (refine W.reg env hN (by kernel_rfl) ?_; conv => whnf) | refine W.condT rfl ?_ | refine W.condF rfl ?_ | (refine W.skip ?_; conv => whnf) | (refine W.exit ?_; conv => whnf) | refine W.block ?_ | (refine fun (hlen : (_ : Nat) ≤ _) => ?_; conv => whnf) | (refine okFp_intro (by kernel_rfl) ?_; conv => whnf) | (refine And.intro rfl ?_; conv => whnf) | (refine And.intro (by omega) ?_; conv => whnf) | (refine rowAt_of rfl ?_; conv => whnf) | (refine boolRes_true (by omega) ?_; conv => whnf) | (refine boolRes_false (by omega) ?_; conv => whnf) | (refine boolRes_true rfl ?_; conv => whnf))
  refine boolRes_split (fun hb => ?_) (fun hb => ?_) <;> conv => whnf
  · have hlt : j < l.length := by omega
    have hx : (strRows l)[j]? = some [.str l[j]] := by simp [strRows, hlt]
    rw [List.drop_eq_getElem_cons hlt, List.foldl_cons] at he
    generalize l[j] = t at *
    repeat (first | refine W.seq ?_ | (refine W.reg env hN (by kernel_rfl) ?_; conv => whnf) | refine W.condT rfl ?_ | refine W.condF rfl ?_ | (refine W.skip ?_; conv => whnf) | (refine W.exit ?_; conv => whnf) | refine W.block ?_ | (refine fun (hlen : (_ : Nat) ≤ _) => ?_; conv => whnf) | (refine okFp_intro (by kernel_rfl) ?_; conv => whnf) | (refine And.intro rfl ?_; conv => whnf) | (refine And.intro (by omega) ?_; conv => whnf) | (refine rowAt_of rfl ?_; conv => whnf) | (refine boolRes_true (by omega) ?_; conv => whnf) | (refine boolRes_false (by omega) ?_; conv => whnf) | (refine boolRes_true rfl ?_; conv => whnf))
    refine rowAt_of hx ?_
    conv => whnf
    repeat (first | refine W.seq ?_ | (refine W.reg env hN (by kernel_rfl) ?_; conv => whnf) | refine W.condT rfl ?_ | refine W.condF rfl ?_ | (refine W.skip ?_; conv => whnf) | (refine W.exit ?_; conv => whnf) | refine W.block ?_ | (refine fun (hlen : (_ : Nat) ≤ _) => ?_; conv => whnf) | (refine okFp_intro (by kernel_rfl) ?_; conv => whnf) | (refine And.intro rfl ?_; conv => whnf) | (refine And.intro (by omega) ?_; conv => whnf) | (refine rowAt_of rfl ?_; conv => whnf) | (refine boolRes_true (by omega) ?_; conv => whnf) | (refine boolRes_false (by omega) ?_; conv => whnf) | (refine boolRes_true rfl ?_; conv => whnf))
    refine W.loopG (fun n st => ∃ k : Nat, k ≤ out.length ∧ (∀ i u, i < k → out[i]? = some u → Op.bytesLess u t = true) ∧ n = out.length - k ∧ st = ⟨[(3, .osl 60 0 0 (strRows out).length (strRows out).length), (5, .str t), (6, .int .i64 k), (7, .sl (strRows l) false), (8, .int .i64 (strRows l).length), (9, .int .i64 j)], [(60, [.rows 1 (strRows out) (some [])])], [60]⟩)
      out.length _ ⟨0, by omega, by omega, rfl, rfl⟩ ⟨[(60, 60)], [], [], LeG.mk' rfl rfl rfl (by repeat' (first | exact trivial | exact ⟨_, .refl _, rfl⟩ | apply And.intro)) (.cons 60 rfl rfl (.refl _) rfl .nil) rfl rfl (by rw [hK]; rfl)⟩ ?_
    rintro n st ⟨k, hk, hlow, rfl, rfl⟩
    repeat (first | refine W.seq ?_ | (refine W.reg env hN (by kernel_rfl) ?_; conv => whnf) | refine W.condT rfl ?_ | refine W.condF rfl ?_ | (refine W.skip ?_; conv => whnf) | (refine W.exit ?_; conv => whnf) | refine W.block ?_ | (refine fun (hlen : (_ : Nat) ≤ _) => ?_; conv => whnf) | (refine okFp_intro (by kernel_rfl) ?_; conv => whnf) | (refine And.intro rfl ?_; conv => whnf) | (refine And.intro (by omega) ?_; conv => whnf) | (refine rowAt_of rfl ?_; conv => whnf) | (refine boolRes_true (by omega) ?_; conv => whnf) | (refine boolRes_false (by omega) ?_; conv => whnf) | (refine boolRes_true rfl ?_; conv => whnf))
    refine boolRes_split (fun hb => ?_) (fun hb => ?_) <;> conv => whnf
    · have hlt : k < out.length := by omega
      have hget : (strRows out)[0 + ((k : Nat) : Int).toNat]? = some [.str out[k]] := by simp [strRows, hlt]
      repeat (first | refine W.seq ?_ | (refine W.reg env hN (by kernel_rfl) ?_; conv => whnf) | refine W.condT rfl ?_ | refine W.condF rfl ?_ | (refine W.skip ?_; conv => whnf) | (refine W.exit ?_; conv => whnf) | refine W.block ?_ | (refine fun (hlen : (_ : Nat) ≤ _) => ?_; conv => whnf) | (refine okFp_intro (by kernel_rfl) ?_; conv => whnf) | (refine And.intro rfl ?_; conv => whnf) | (refine And.intro (by omega) ?_; conv => whnf) | (refine rowAt_of rfl ?_; conv => whnf) | (refine boolRes_true (by omega) ?_; conv => whnf) | (refine boolRes_false (by omega) ?_; conv => whnf) | (refine boolRes_true rfl ?_; conv => whnf))
      refine rowAt_of hget ?_
      conv => whnf
      repeat (first | refine W.seq ?_ | (refine W.reg env hN (by kernel_rfl) ?_; conv => whnf) | refine W.condT rfl ?_ | refine W.condF rfl ?_ | (refine W.skip ?_; conv => whnf) | (refine W.exit ?_; conv => whnf) | refine W.block ?_ | (refine fun (hlen : (_ : Nat) ≤ _) => ?_; conv => whnf) | (refine okFp_intro (by kernel_rfl) ?_; conv => whnf) | (refine And.intro rfl ?_; conv => whnf) | (refine And.intro (by omega) ?_; conv => whnf) | (refine rowAt_of rfl ?_; conv => whnf) | (refine boolRes_true (by omega) ?_; conv => whnf) | (refine boolRes_false (by omega) ?_; conv => whnf) | (refine boolRes_true rfl ?_; conv => whnf))
      refine boolRes_split (fun hb => ?_) (fun hb => ?_) <;> conv => whnf
      · repeat (first | refine W.seq ?_ | (refine W.reg env hN (by kernel_rfl) ?_; conv => whnf) | refine W.condT rfl ?_ | refine W.condF rfl ?_ | (refine W.skip ?_; conv => whnf) | (refine W.exit ?_; conv => whnf) | refine W.block ?_ | (refine fun (hlen : (_ : Nat) ≤ _) => ?_; conv => whnf) | (refine okFp_intro (by kernel_rfl) ?_; conv => whnf) | (refine And.intro rfl ?_; conv => whnf) | (refine And.intro (by omega) ?_; conv => whnf) | (refine rowAt_of rfl ?_; conv => whnf) | (refine boolRes_true (by omega) ?_; conv => whnf) | (refine boolRes_false (by omega) ?_; conv => whnf) | (refine boolRes_true rfl ?_; conv => whnf))
        refine ⟨_, _, ?_, ⟨k + 1, by omega, ?_, rfl, rfl⟩, ⟨[(60, 60)], [], [], LeG.mk' rfl rfl rfl (by repeat' (first | exact trivial | exact ⟨_, .refl _, rfl⟩ | apply And.intro)) (.cons 60 rfl rfl (.refl _) rfl .nil) rfl rfl (by rw [hK]; rfl)⟩⟩
        · omega
        · intro i u hi hu
          rcases Nat.lt_or_ge i k with h | h
          · exact hlow i u h hu
          · obtain rfl : i = k := by omega
            rw [List.getElem?_eq_getElem hlt] at hu; cases hu; exact hb
      · have hrk : rankS out t = k := rankS_eq hk hlow (fun u hu => by
          rw [List.getElem?_eq_getElem hlt] at hu; cases hu; simpa using hb)
        repeat (first | refine W.seq ?_ | (refine W.reg env hN (by kernel_rfl) ?_; conv => whnf) | refine W.condT rfl ?_ | refine W.condF rfl ?_ | (refine W.skip ?_; conv => whnf) | (refine W.exit ?_; conv => whnf) | refine W.block ?_ | (refine fun (hlen : (_ : Nat) ≤ _) => ?_; conv => whnf) | (refine okFp_intro (by kernel_rfl) ?_; conv => whnf) | (refine And.intro rfl ?_; conv => whnf) | (refine And.intro (by omega) ?_; conv => whnf) | (refine rowAt_of rfl ?_; conv => whnf) | (refine boolRes_true (by omega) ?_; conv => whnf) | (refine boolRes_false (by omega) ?_; conv => whnf) | (refine boolRes_true rfl ?_; conv => whnf))
        refine rowAt_of hget ?_
        conv => whnf
        repeat (first | refine W.seq ?_ | (refine W.reg env hN (by kernel_rfl) ?_; conv => whnf) | refine W.condT rfl ?_ | refine W.condF rfl ?_ | (refine W.skip ?_; conv => whnf) | (refine W.exit ?_; conv => whnf) | refine W.block ?_ | (refine fun (hlen : (_ : Nat) ≤ _) => ?_; conv => whnf) | (refine okFp_intro (by kernel_rfl) ?_; conv => whnf) | (refine And.intro rfl ?_; conv => whnf) | (refine And.intro (by omega) ?_; conv => whnf) | (refine rowAt_of rfl ?_; conv => whnf) | (refine boolRes_true (by omega) ?_; conv => whnf) | (refine boolRes_false (by omega) ?_; conv => whnf) | (refine boolRes_true rfl ?_; conv => whnf))
        refine boolRes_split (fun hb => ?_) (fun hb => ?_) <;> conv => whnf
        · have hset : setIns out t = out.take k ++ t :: out.drop k := by
            unfold setIns
            rw [hrk, if_neg]
            rw [List.getElem?_eq_getElem hlt]
            intro h; cases h; exact hb rfl
          have hdl : List.take (((strRows out).length : Int).toNat - ((k : Nat) : Int).toNat) (List.drop (0 + ((k : Nat) : Int).toNat) (strRows out)) = (strRows out).drop k := by
            rw [Nat.zero_add, Int.toNat_natCast, Int.toNat_natCast, List.take_of_length_le (by rw [List.length_drop]; omega)]
          have hall : List.take (1 + ((strRows out).drop k).length) ([V.str t] :: (strRows out).drop k) = [V.str t] :: (strRows out).drop k := List.take_of_length_le (by rw [List.length_cons]; omega)
          have hrows : strRows (setIns out t) = (strRows out).take k ++ [V.str t] :: (strRows out).drop k := by rw [hset]; simp [strRows]
          have hlen2 : (strRows (setIns out t)).length = ((k : Nat) : Int).toNat + ([V.str t] :: (strRows out).drop k).length := by
            rw [hrows, List.length_append, List.length_take, Int.toNat_natCast, Nat.min_eq_left (by omega)]
          repeat (first | refine W.seq ?_ | (refine W.reg env hN (by kernel_rfl) ?_; conv => whnf) | refine W.condT rfl ?_ | refine W.condF rfl ?_ | (refine W.skip ?_; conv => whnf) | (refine W.exit ?_; conv => whnf) | refine W.block ?_ | (refine fun (hlen : (_ : Nat) ≤ _) => ?_; conv => whnf) | (refine okFp_intro (by kernel_rfl) ?_; conv => whnf) | (refine And.intro rfl ?_; conv => whnf) | (refine And.intro (by omega) ?_; conv => whnf) | (refine rowAt_of rfl ?_; conv => whnf) | (refine boolRes_true (by omega) ?_; conv => whnf) | (refine boolRes_false (by omega) ?_; conv => whnf) | (refine boolRes_true rfl ?_; conv => whnf))
          refine ⟨⟨rfl, rfl⟩, ⟨?_, ?_⟩, .inl ⟨rfl, rfl, ?_⟩⟩
          · show (1 + (List.take (((strRows out).length : Int).toNat - ((k : Nat) : Int).toNat) (List.drop (0 + ((k : Nat) : Int).toNat) (strRows out))).length) * 16 ≤ _
            rw [hdl, List.length_drop]; omega
          · show 1 + (List.take (((strRows out).length : Int).toNat - ((k : Nat) : Int).toNat) (List.drop (0 + ((k : Nat) : Int).toNat) (strRows out))).length ≤ _
            rw [hdl, List.length_drop]; omega
          conv => whnf
          repeat (first | refine W.seq ?_ | (refine W.reg env hN (by kernel_rfl) ?_; conv => whnf) | refine W.condT rfl ?_ | refine W.condF rfl ?_ | (refine W.skip ?_; conv => whnf) | (refine W.exit ?_; conv => whnf) | refine W.block ?_ | (refine fun (hlen : (_ : Nat) ≤ _) => ?_; conv => whnf) | (refine okFp_intro (by kernel_rfl) ?_; conv => whnf) | (refine And.intro rfl ?_; conv => whnf) | (refine And.intro (by omega) ?_; conv => whnf) | (refine rowAt_of rfl ?_; conv => whnf) | (refine boolRes_true (by omega) ?_; conv => whnf) | (refine boolRes_false (by omega) ?_; conv => whnf) | (refine boolRes_true rfl ?_; conv => whnf))
          refine ⟨⟨(by simp [Nat.add_comm]), rfl⟩, ⟨?_, ?_⟩, .inr ⟨rfl, ?_⟩⟩
          · show (((k : Nat) : Int).toNat + (List.take (1 + (List.take (((strRows out).length : Int).toNat - ((k : Nat) : Int).toNat) (List.drop (0 + ((k : Nat) : Int).toNat) (strRows out))).length) ([V.str t] :: List.take (((strRows out).length : Int).toNat - ((k : Nat) : Int).toNat) (List.drop (0 + ((k : Nat) : Int).toNat) (strRows out)))).length) * 16 ≤ _
            rw [hdl, hall, List.length_cons, List.length_drop]; omega
          · show ((k : Nat) : Int).toNat + (List.take (1 + (List.take (((strRows out).length : Int).toNat - ((k : Nat) : Int).toNat) (List.drop (0 + ((k : Nat) : Int).toNat) (strRows out))).length) ([V.str t] :: List.take (((strRows out).length : Int).toNat - ((k : Nat) : Int).toNat) (List.drop (0 + ((k : Nat) : Int).toNat) (strRows out)))).length ≤ _
            rw [hdl, hall, List.length_cons, List.length_drop]; omega
          conv => whnf
          repeat (first | refine W.seq ?_ | (refine W.reg env hN (by kernel_rfl) ?_; conv => whnf) | refine W.condT rfl ?_ | refine W.condF rfl ?_ | (refine W.skip ?_; conv => whnf) | (refine W.exit ?_; conv => whnf) | refine W.block ?_ | (refine fun (hlen : (_ : Nat) ≤ _) => ?_; conv => whnf) | (refine okFp_intro (by kernel_rfl) ?_; conv => whnf) | (refine And.intro rfl ?_; conv => whnf) | (refine And.intro (by omega) ?_; conv => whnf) | (refine rowAt_of rfl ?_; conv => whnf) | (refine boolRes_true (by omega) ?_; conv => whnf) | (refine boolRes_false (by omega) ?_; conv => whnf) | (refine boolRes_true rfl ?_; conv => whnf))
          refine ⟨_, _, ?_, ⟨j + 1, setIns out t, by omega, by have := setIns_len out t; omega, he, rfl, rfl⟩, [(48, 60)], [], [], LeG.mk' rfl rfl rfl ⟨⟨_, .refl _, (by
              show V.osl 60 0 0 (((k : Nat) : Int).toNat + (List.take (1 + (List.take (((strRows out).length : Int).toNat - ((k : Nat) : Int).toNat) (List.drop (0 + ((k : Nat) : Int).toNat) (strRows out))).length) ([V.str t] :: List.take (((strRows out).length : Int).toNat - ((k : Nat) : Int).toNat) (List.drop (0 + ((k : Nat) : Int).toNat) (strRows out)))).length) (((k : Nat) : Int).toNat + (List.take (1 + (List.take (((strRows out).length : Int).toNat - ((k : Nat) : Int).toNat) (List.drop (0 + ((k : Nat) : Int).toNat) (strRows out))).length) ([V.str t] :: List.take (((strRows out).length : Int).toNat - ((k : Nat) : Int).toNat) (List.drop (0 + ((k : Nat) : Int).toNat) (strRows out)))).length) = _
              rw [hdl, hall, hlen2])⟩, ⟨_, .refl _, rfl⟩, ⟨_, .refl _, rfl⟩, ⟨_, .refl _, rfl⟩, trivial⟩
            (.cons 48 rfl rfl (.refl _) (by
              show _ = [Blk.rows 1 (List.take ((k : Nat) : Int).toNat (strRows out) ++ List.take (1 + (List.take (((strRows out).length : Int).toNat - ((k : Nat) : Int).toNat) (List.drop (0 + ((k : Nat) : Int).toNat) (strRows out))).length) ([V.str t] :: List.take (((strRows out).length : Int).toNat - ((k : Nat) : Int).toNat) (List.drop (0 + ((k : Nat) : Int).toNat) (strRows out)))) (some [])]
              rw [hdl, hall, Int.toNat_natCast, hrows]) .nil) rfl rfl (by rw [hK]; rfl)⟩
          omega
        · have hset : setIns out t = out := by
            unfold setIns
            rw [hrk, if_pos]
            rw [List.getElem?_eq_getElem hlt]
            exact congrArg some (Classical.not_not.1 hb)
          rw [hset] at he
          repeat (first | refine W.seq ?_ | (refine W.reg env hN (by kernel_rfl) ?_; conv => whnf) | refine W.condT rfl ?_ | refine W.condF rfl ?_ | (refine W.skip ?_; conv => whnf) | (refine W.exit ?_; conv => whnf) | refine W.block ?_ | (refine fun (hlen : (_ : Nat) ≤ _) => ?_; conv => whnf) | (refine okFp_intro (by kernel_rfl) ?_; conv => whnf) | (refine And.intro rfl ?_; conv => whnf) | (refine And.intro (by omega) ?_; conv => whnf) | (refine rowAt_of rfl ?_; conv => whnf) | (refine boolRes_true (by omega) ?_; conv => whnf) | (refine boolRes_false (by omega) ?_; conv => whnf) | (refine boolRes_true rfl ?_; conv => whnf))
          refine ⟨_, _, ?_, ⟨j + 1, out, by omega, by omega, he, rfl, rfl⟩, ⟨[(60, 60)], [], [], LeG.mk' rfl rfl rfl (by repeat' (first | exact trivial | exact ⟨_, .refl _, rfl⟩ | apply And.intro)) (.cons 60 rfl rfl (.refl _) rfl .nil) rfl rfl (by rw [hK]; rfl)⟩⟩
          omega
    · have hke : k = out.length := by omega
      have hrk : rankS out t = k := rankS_eq hk hlow (fun u hu => by
        rw [List.getElem?_eq_none (by omega)] at hu; cases hu)
      have hset : setIns out t = out.take k ++ t :: out.drop k := by
        unfold setIns
        rw [hrk, if_neg]
        rw [List.getElem?_eq_none (by omega)]
        intro h; cases h
      have hdl : List.take (((strRows out).length : Int).toNat - ((k : Nat) : Int).toNat) (List.drop (0 + ((k : Nat) : Int).toNat) (strRows out)) = (strRows out).drop k := by
        rw [Nat.zero_add, Int.toNat_natCast, Int.toNat_natCast, List.take_of_length_le (by rw [List.length_drop]; omega)]
      have hall : List.take (1 + ((strRows out).drop k).length) ([V.str t] :: (strRows out).drop k) = [V.str t] :: (strRows out).drop k := List.take_of_length_le (by rw [List.length_cons]; omega)
      have hrows : strRows (setIns out t) = (strRows out).take k ++ [V.str t] :: (strRows out).drop k := by rw [hset]; simp [strRows]
      have hlen2 : (strRows (setIns out t)).length = ((k : Nat) : Int).toNat + ([V.str t] :: (strRows out).drop k).length := by
        rw [hrows, List.length_append, List.length_take, Int.toNat_natCast, Nat.min_eq_left (by omega)]
      repeat (first | refine W.seq ?_ | (refine W.reg env hN (by kernel_rfl) ?_; conv => whnf) | refine W.condT rfl ?_ | refine W.condF rfl ?_ | (refine W.skip ?_; conv => whnf) | (refine W.exit ?_; conv => whnf) | refine W.block ?_ | (refine fun (hlen : (_ : Nat) ≤ _) => ?_; conv => whnf) | (refine okFp_intro (by kernel_rfl) ?_; conv => whnf) | (refine And.intro rfl ?_; conv => whnf) | (refine And.intro (by omega) ?_; conv => whnf) | (refine rowAt_of rfl ?_; conv => whnf) | (refine boolRes_true (by omega) ?_; conv => whnf) | (refine boolRes_false (by omega) ?_; conv => whnf) | (refine boolRes_true rfl ?_; conv => whnf))
      refine ⟨⟨rfl, rfl⟩, ⟨?_, ?_⟩, .inl ⟨rfl, rfl, ?_⟩⟩
      · show (1 + (List.take (((strRows out).length : Int).toNat - ((k : Nat) : Int).toNat) (List.drop (0 + ((k : Nat) : Int).toNat) (strRows out))).length) * 16 ≤ _
        rw [hdl, List.length_drop]; omega
      · show 1 + (List.take (((strRows out).length : Int).toNat - ((k : Nat) : Int).toNat) (List.drop (0 + ((k : Nat) : Int).toNat) (strRows out))).length ≤ _
        rw [hdl, List.length_drop]; omega
      conv => whnf
      repeat (first | refine W.seq ?_ | (refine W.reg env hN (by kernel_rfl) ?_; conv => whnf) | refine W.condT rfl ?_ | refine W.condF rfl ?_ | (refine W.skip ?_; conv => whnf) | (refine W.exit ?_; conv => whnf) | refine W.block ?_ | (refine fun (hlen : (_ : Nat) ≤ _) => ?_; conv => whnf) | (refine okFp_intro (by kernel_rfl) ?_; conv => whnf) | (refine And.intro rfl ?_; conv => whnf) | (refine And.intro (by omega) ?_; conv => whnf) | (refine rowAt_of rfl ?_; conv => whnf) | (refine boolRes_true (by omega) ?_; conv => whnf) | (refine boolRes_false (by omega) ?_; conv => whnf) | (refine boolRes_true rfl ?_; conv => whnf))
      refine ⟨⟨(by simp [Nat.add_comm]), rfl⟩, ⟨?_, ?_⟩, .inr ⟨rfl, ?_⟩⟩
      · show (((k : Nat) : Int).toNat + (List.take (1 + (List.take (((strRows out).length : Int).toNat - ((k : Nat) : Int).toNat) (List.drop (0 + ((k : Nat) : Int).toNat) (strRows out))).length) ([V.str t] :: List.take (((strRows out).length : Int).toNat - ((k : Nat) : Int).toNat) (List.drop (0 + ((k : Nat) : Int).toNat) (strRows out)))).length) * 16 ≤ _
        rw [hdl, hall, List.length_cons, List.length_drop]; omega
      · show ((k : Nat) : Int).toNat + (List.take (1 + (List.take (((strRows out).length : Int).toNat - ((k : Nat) : Int).toNat) (List.drop (0 + ((k : Nat) : Int).toNat) (strRows out))).length) ([V.str t] :: List.take (((strRows out).length : Int).toNat - ((k : Nat) : Int).toNat) (List.drop (0 + ((k : Nat) : Int).toNat) (strRows out)))).length ≤ _
        rw [hdl, hall, List.length_cons, List.length_drop]; omega
      conv => whnf
      repeat (first | refine W.seq ?_ | (refine W.reg env hN (by kernel_rfl) ?_; conv => whnf) | refine W.condT rfl ?_ | refine W.condF rfl ?_ | (refine W.skip ?_; conv => whnf) | (refine W.exit ?_; conv => whnf) | refine W.block ?_ | (refine fun (hlen : (_ : Nat) ≤ _) => ?_; conv => whnf) | (refine okFp_intro (by kernel_rfl) ?_; conv => whnf) | (refine And.intro rfl ?_; conv => whnf) | (refine And.intro (by omega) ?_; conv => whnf) | (refine rowAt_of rfl ?_; conv => whnf) | (refine boolRes_true (by omega) ?_; conv => whnf) | (refine boolRes_false (by omega) ?_; conv => whnf) | (refine boolRes_true rfl ?_; conv => whnf))
      refine ⟨_, _, ?_, ⟨j + 1, setIns out t, by omega, by have := setIns_len out t; omega, he, rfl, rfl⟩, [(48, 60)], [], [], LeG.mk' rfl rfl rfl ⟨⟨_, .refl _, (by
          show V.osl 60 0 0 (((k : Nat) : Int).toNat + (List.take (1 + (List.take (((strRows out).length : Int).toNat - ((k : Nat) : Int).toNat) (List.drop (0 + ((k : Nat) : Int).toNat) (strRows out))).length) ([V.str t] :: List.take (((strRows out).length : Int).toNat - ((k : Nat) : Int).toNat) (List.drop (0 + ((k : Nat) : Int).toNat) (strRows out)))).length) (((k : Nat) : Int).toNat + (List.take (1 + (List.take (((strRows out).length : Int).toNat - ((k : Nat) : Int).toNat) (List.drop (0 + ((k : Nat) : Int).toNat) (strRows out))).length) ([V.str t] :: List.take (((strRows out).length : Int).toNat - ((k : Nat) : Int).toNat) (List.drop (0 + ((k : Nat) : Int).toNat) (strRows out)))).length) = _
          rw [hdl, hall, hlen2])⟩, ⟨_, .refl _, rfl⟩, ⟨_, .refl _, rfl⟩, ⟨_, .refl _, rfl⟩, trivial⟩
        (.cons 48 rfl rfl (.refl _) (by
          show _ = [Blk.rows 1 (List.take ((k : Nat) : Int).toNat (strRows out) ++ List.take (1 + (List.take (((strRows out).length : Int).toNat - ((k : Nat) : Int).toNat) (List.drop (0 + ((k : Nat) : Int).toNat) (strRows out))).length) ([V.str t] :: List.take (((strRows out).length : Int).toNat - ((k : Nat) : Int).toNat) (List.drop (0 + ((k : Nat) : Int).toNat) (strRows out)))) (some [])]
          rw [hdl, hall, Int.toNat_natCast, hrows]) .nil) rfl rfl (by rw [hK]; rfl)⟩
      omega
  · have hje : j = l.length := by omega
    rw [hje, List.drop_length, List.foldl_nil] at he
    rw [he]
    repeat (first | refine W.seq ?_ | (refine W.reg env hN (by kernel_rfl) ?_; conv => whnf) | refine W.condT rfl ?_ | refine W.condF rfl ?_ | (refine W.skip ?_; conv => whnf) | (refine W.exit ?_; conv => whnf) | refine W.block ?_ | (refine fun (hlen : (_ : Nat) ≤ _) => ?_; conv => whnf) | (refine okFp_intro (by kernel_rfl) ?_; conv => whnf) | (refine And.intro rfl ?_; conv => whnf) | (refine And.intro (by omega) ?_; conv => whnf) | (refine rowAt_of rfl ?_; conv => whnf) | (refine boolRes_true (by omega) ?_; conv => whnf) | (refine boolRes_false (by omega) ?_; conv => whnf) | (refine boolRes_true rfl ?_; conv => whnf))
    refine W.leG (mp := []) (bo := [60]) (st' := ⟨[(2, .sl (strRows out) false)], [], []⟩) (LeG.mk' rfl rfl rfl ⟨⟨_, Lent.whole rfl rfl rfl rfl (.inl rfl), rfl⟩, trivial⟩ .nil rfl rfl (by rw [hK]; rfl)) ?_
    (refine W.ret ?_; conv => whnf)
    exact ret0 rfl rfl rfl
end Go.Sx.Sp
