/- What Runs computes, what merging costs, and the walk of the law of writes. -/
import Derived.Test.YtjlfdbjgjohbcaaSpFive
set_option linter.unusedVariables false
set_option linter.unusedSimpArgs false
namespace Go.Sx.Sp
open Go Go.Sx Go.Proofs
attribute [local irreducible] GoodW
def digits : Nat → Nat
  | 0 => 0
  | n + 1 => digits ((n + 1) / 2) + 1
termination_by n => n
decreasing_by omega
theorem digits_pos {n : Nat} (h : 0 < n) : digits n = digits (n / 2) + 1 := by
  cases n with
  | zero => omega
  | succ n => rw [digits]
theorem digits_mono : ∀ {a b : Nat}, a ≤ b → digits a ≤ digits b := by
  intro a b
  induction b using Nat.strongRecOn generalizing a with
  | _ b ih =>
    intro h
    rcases Nat.eq_zero_or_pos a with rfl | ha
    · rw [digits]; omega
    · rw [digits_pos ha, digits_pos (show 0 < b by omega)]
      have := ih (b / 2) (by omega) (a := a / 2) (by omega)
      omega
def mergeN : Nat → Spill → Spill
  | 0, s => s
  | n + 1, s => mergeN n s.merge
theorem merge_of {s : Spill} {a b : List Count} {r : List (List Count)} (he : s.runs = a :: b :: r) : s.merge.runs = r ++ [merged a b] ∧ s.merge.written = s.written + (merged a b).length := by
  unfold Spill.merge; rw [he]; exact ⟨rfl, rfl⟩
theorem round : ∀ (k : Nat) (s : Spill) (pre suf : List (List Count)), s.runs = pre ++ suf → pre.length = 2 * k →
    ∃ new, (mergeN k s).runs = suf ++ new ∧ new.length = k ∧ sumLen new ≤ sumLen pre ∧ (mergeN k s).written ≤ s.written + sumLen pre
  | 0, s, pre, suf, he, hl => by
    have : pre = [] := List.length_eq_zero_iff.1 (by omega)
    subst this
    exact ⟨[], by simpa [mergeN] using he, rfl, by simp [sumLen], by simp [mergeN, sumLen]⟩
  | k + 1, s, pre, suf, he, hl => by
    rcases pre with _ | ⟨a, _ | ⟨b, pre⟩⟩
    · simp at hl
    · simp at hl; omega
    · obtain ⟨h1, h2⟩ := merge_of (s := s) (a := a) (b := b) (r := pre ++ suf) he
      have hml := merged_len a b
      obtain ⟨new, n1, n2, n3, n4⟩ := round k s.merge pre (suf ++ [merged a b]) (by rw [h1]; simp) (by simp at hl; omega)
      refine ⟨merged a b :: new, by rw [mergeN, n1]; simp, by simp [n2], ?_, ?_⟩
      · simp only [sumLen, List.map_cons, List.sum_cons] at n3 ⊢; omega
      · rw [mergeN]
        simp only [sumLen, List.map_cons, List.sum_cons] at n3 n4 ⊢
        omega
theorem mergeAll_add : ∀ (k n : Nat) (s : Spill), k < s.runs.length → mergeAll (k + n) s = mergeAll n (mergeN k s)
  | 0, n, s, _ => by simp [mergeN]
  | k + 1, n, s, h => by
    rcases hq : s.runs with _ | ⟨a, _ | ⟨b, r⟩⟩
    · rw [hq] at h; simp at h
    · rw [hq] at h; simp at h
    · rw [show k + 1 + n = (k + n) + 1 by omega, mergeAll_step hq, mergeN, mergeAll_add k n s.merge]
      rw [(merge_of hq).1]
      rw [hq] at h
      simp at h ⊢; omega
theorem merge_cost (N : Nat) : ∀ (r : Nat) (s : Spill) (m : Nat), s.runs.length = r → r ≤ m + 1 → sumLen s.runs ≤ N → (mergeAll m s).written ≤ s.written + (N * digits (r - 1) : Nat) := by
  intro r
  induction r using Nat.strongRecOn with
  | _ r ih =>
    intro s m hr hm hN
    rcases Nat.lt_or_ge r 2 with h | h
    · rw [mergeAll_short m (by omega)]; omega
    · have hsplit : s.runs = s.runs.take (2 * (r / 2)) ++ s.runs.drop (2 * (r / 2)) := (List.take_append_drop _ _).symm
      have htl : (s.runs.take (2 * (r / 2))).length = 2 * (r / 2) := by rw [List.length_take]; omega
      obtain ⟨new, n1, n2, n3, n4⟩ := round (r / 2) s _ _ hsplit htl
      have hsum : sumLen s.runs = sumLen (s.runs.take (2 * (r / 2))) + sumLen (s.runs.drop (2 * (r / 2))) := by
        conv => lhs; rw [hsplit]
        rw [sumLen_append]
      have hlen : (mergeN (r / 2) s).runs.length = r - r / 2 := by
        rw [n1, List.length_append, n2, List.length_drop]; omega
      have hle : sumLen (mergeN (r / 2) s).runs ≤ N := by rw [n1, sumLen_append]; omega
      have hadd := mergeAll_add (r / 2) (m - r / 2) s (by omega)
      rw [show r / 2 + (m - r / 2) = m by omega] at hadd
      have hrec := ih (r - r / 2) (by omega) (mergeN (r / 2) s) (m - r / 2) hlen (by omega) hle
      rw [hadd]
      have hd : digits (r - 1) = digits (r - r / 2 - 1) + 1 := by
        rw [digits_pos (show 0 < r - 1 by omega), show (r - 1) / 2 = r - r / 2 - 1 by omega]
      rw [hd, Nat.mul_add, Nat.mul_one]
      omega
theorem fin_cost {s : Spill} (h : s.buf = []) (hw : s.Wr) : s.fin.written - s.written ≤ (sumLen s.runs * digits s.runs.length : Nat) := by
  have h1 : s.flush = s := flush_nil h
  have h2 := merge_cost (sumLen s.runs) s.runs.length s s.runs.length rfl (by omega) (Nat.le_refl _)
  have h3 : sumLen s.runs * digits (s.runs.length - 1) ≤ sumLen s.runs * digits s.runs.length := Nat.mul_le_mul_left _ (digits_mono (by omega))
  unfold Spill.fin
  rw [h1]
  omega
end Go.Sx.Sp
namespace Go.Sx.Sp
open Go Go.Sx Go.Proofs
attribute [local irreducible] GoodW
def runsOf : List Int → Int → Int
  | [], _ => 0
  | d :: ds, m => (if 0 < d then (d - 1) / m + 1 else 0) + runsOf ds m
theorem runsOf_snoc : ∀ (ds : List Int) (d m : Int), runsOf (ds ++ [d]) m = runsOf ds m + if 0 < d then (d - 1) / m + 1 else 0
  | [], d, m => by simp [runsOf]
  | e :: ds, d, m => by simp only [List.cons_append, runsOf, runsOf_snoc ds d m]; omega
theorem runsOf_bounds {m : Int} (hm : 2 ≤ m) : ∀ {ds : List Int}, (∀ d ∈ ds, d ≤ 1099511627776) → 0 ≤ runsOf ds m ∧ runsOf ds m ≤ 1099511627777 * ds.length
  | [], _ => by simp [runsOf]
  | d :: ds, h => by
    have h1 := runsOf_bounds hm (ds := ds) fun x hx => h x (List.mem_cons_of_mem _ hx)
    have h2 := h d (by simp)
    simp only [runsOf, List.length_cons]
    split
    · have h3 : 0 ≤ (d - 1) / m := Int.ediv_nonneg (by omega) (by omega)
      have h4 : (d - 1) / m ≤ d - 1 := Int.ediv_le_self _ (by omega)
      omega
    · omega
set_option maxHeartbeats 4000000 in
theorem runs_spec (ds : List Int) (m : Int) (hm : 2 ≤ m ∧ m ≤ 65536) (hd : ∀ d ∈ ds, d ≤ 1099511627776) (hl : ds.length ≤ 10000) : Spec Try.prog 19 [.sl (intRows .i64 ds) false, .int .i64 m] [] (.int .i64 (runsOf ds m)) [] := by
  have hfm : fits m = true := by simp [fits]; omega
  have hil := intRows_len .i64 ds
  have sp := fits_spec m
  rw [hfm] at sp
  refine Spec.body env Try.func19 rfl (by kernel_rfl) (Nat.le_of_ble_eq_true (by kernel_rfl)) (keysSub rfl) fun Γ hN hK => ?_; have hML : maxLen = 9223372036854775807 := by unfold maxLen; rfl
  repeat (first | refine W.seq ?_ | (refine W.reg env hN (by kernel_rfl) ?_; conv => whnf) | refine W.condT rfl ?_ | refine W.condF rfl ?_ | (refine W.skip ?_; conv => whnf) | (refine W.exit ?_; conv => whnf) | refine W.block ?_ | (refine fun (hlen : (_ : Nat) ≤ _) => ?_; conv => whnf) | (refine okFp_intro (by kernel_rfl) ?_; conv => whnf) | (refine And.intro rfl ?_; conv => whnf) | (refine And.intro (by omega) ?_; conv => whnf) | (refine rowAt_of rfl ?_; conv => whnf) | (refine boolRes_true (by omega) ?_; conv => whnf) | (refine boolRes_false (by omega) ?_; conv => whnf) | (refine boolRes_true rfl ?_; conv => whnf))
  (refine ⟨_, _, _, callG [] [] [] rfl rfl rfl (by kernel_rfl) (sp) (by repeat' (first | exact trivial | exact Lent.refl _ | exact Lent.norm _ | apply And.intro)) rfl ⟨rfl, rfl, rfl, rfl, rfl, by repeat' (first | exact trivial | rfl | apply And.intro), rfl, rfl⟩, ?_⟩; conv => whnf)
  repeat (first | refine W.seq ?_ | (refine W.reg env hN (by kernel_rfl) ?_; conv => whnf) | refine W.condT rfl ?_ | refine W.condF rfl ?_ | (refine W.skip ?_; conv => whnf) | (refine W.exit ?_; conv => whnf) | refine W.block ?_ | (refine fun (hlen : (_ : Nat) ≤ _) => ?_; conv => whnf) | (refine okFp_intro (by kernel_rfl) ?_; conv => whnf) | (refine And.intro rfl ?_; conv => whnf) | (refine And.intro (by omega) ?_; conv => whnf) | (refine rowAt_of rfl ?_; conv => whnf) | (refine boolRes_true (by omega) ?_; conv => whnf) | (refine boolRes_false (by omega) ?_; conv => whnf) | (refine boolRes_true rfl ?_; conv => whnf))
  refine W.loopG (fun n st => ∃ k : Nat, k ≤ ds.length ∧ n = ds.length - k ∧ st = ⟨[(1, .int .i64 m), (5, .int .i64 (runsOf (ds.take k) m)), (11, .sl (intRows .i64 ds) false), (12, .int .i64 (intRows .i64 ds).length), (13, .int .i64 k)], [], []⟩)
    ds.length _ ⟨0, by omega, rfl, rfl⟩ ⟨[], [], [], LeG.mk' rfl rfl rfl (by repeat' (first | exact trivial | exact ⟨_, .refl _, rfl⟩ | apply And.intro)) .nil rfl rfl (by rw [hK]; rfl)⟩ ?_
  rintro n st ⟨k, hk, rfl, rfl⟩
  repeat (first | refine W.seq ?_ | (refine W.reg env hN (by kernel_rfl) ?_; conv => whnf) | refine W.condT rfl ?_ | refine W.condF rfl ?_ | (refine W.skip ?_; conv => whnf) | (refine W.exit ?_; conv => whnf) | refine W.block ?_ | (refine fun (hlen : (_ : Nat) ≤ _) => ?_; conv => whnf) | (refine okFp_intro (by kernel_rfl) ?_; conv => whnf) | (refine And.intro rfl ?_; conv => whnf) | (refine And.intro (by omega) ?_; conv => whnf) | (refine rowAt_of rfl ?_; conv => whnf) | (refine boolRes_true (by omega) ?_; conv => whnf) | (refine boolRes_false (by omega) ?_; conv => whnf) | (refine boolRes_true rfl ?_; conv => whnf))
  refine boolRes_split (fun hb => ?_) (fun hb => ?_) <;> conv => whnf
  · have hlt : k < ds.length := by omega
    have hx : (intRows .i64 ds)[k]? = some [.int .i64 ds[k]] := by simp [intRows, hlt]
    have hdk := hd ds[k] (List.getElem_mem hlt)
    have hb1 := runsOf_bounds hm.1 (ds := ds.take k) fun x hx => hd x (List.mem_of_mem_take hx)
    have htk : (ds.take k).length ≤ 10000 := by simp; omega
    have hs : ds.take (k + 1) = ds.take k ++ [ds[k]] := by rw [List.take_add_one, List.getElem?_eq_getElem hlt]; rfl
    have hsn := runsOf_snoc (ds.take k) ds[k] m
    rw [← hs] at hsn
    generalize ds[k] = d at *
    repeat (first | refine W.seq ?_ | (refine W.reg env hN (by kernel_rfl) ?_; conv => whnf) | refine W.condT rfl ?_ | refine W.condF rfl ?_ | (refine W.skip ?_; conv => whnf) | (refine W.exit ?_; conv => whnf) | refine W.block ?_ | (refine fun (hlen : (_ : Nat) ≤ _) => ?_; conv => whnf) | (refine okFp_intro (by kernel_rfl) ?_; conv => whnf) | (refine And.intro rfl ?_; conv => whnf) | (refine And.intro (by omega) ?_; conv => whnf) | (refine rowAt_of rfl ?_; conv => whnf) | (refine boolRes_true (by omega) ?_; conv => whnf) | (refine boolRes_false (by omega) ?_; conv => whnf) | (refine boolRes_true rfl ?_; conv => whnf))
    refine rowAt_of hx ?_
    conv => whnf
    repeat (first | refine W.seq ?_ | (refine W.reg env hN (by kernel_rfl) ?_; conv => whnf) | refine W.condT rfl ?_ | refine W.condF rfl ?_ | (refine W.skip ?_; conv => whnf) | (refine W.exit ?_; conv => whnf) | refine W.block ?_ | (refine fun (hlen : (_ : Nat) ≤ _) => ?_; conv => whnf) | (refine okFp_intro (by kernel_rfl) ?_; conv => whnf) | (refine And.intro rfl ?_; conv => whnf) | (refine And.intro (by omega) ?_; conv => whnf) | (refine rowAt_of rfl ?_; conv => whnf) | (refine boolRes_true (by omega) ?_; conv => whnf) | (refine boolRes_false (by omega) ?_; conv => whnf) | (refine boolRes_true rfl ?_; conv => whnf))
    refine boolRes_split (fun hb => ?_) (fun hb => ?_) <;> conv => whnf
    · have hq : (d - 1).tdiv m = (d - 1) / m := Int.tdiv_eq_ediv_of_nonneg (by omega)
      have h3 : 0 ≤ (d - 1) / m := Int.ediv_nonneg (by omega) (by omega)
      have h4 : (d - 1) / m ≤ d - 1 := Int.ediv_le_self _ (by omega)
      rw [if_pos hb] at hsn
      repeat (first | refine W.seq ?_ | (refine W.reg env hN (by kernel_rfl) ?_; conv => whnf) | refine W.condT rfl ?_ | refine W.condF rfl ?_ | (refine W.skip ?_; conv => whnf) | (refine W.exit ?_; conv => whnf) | refine W.block ?_ | (refine fun (hlen : (_ : Nat) ≤ _) => ?_; conv => whnf) | (refine okFp_intro (by kernel_rfl) ?_; conv => whnf) | (refine And.intro rfl ?_; conv => whnf) | (refine And.intro (by omega) ?_; conv => whnf) | (refine rowAt_of rfl ?_; conv => whnf) | (refine boolRes_true (by omega) ?_; conv => whnf) | (refine boolRes_false (by omega) ?_; conv => whnf) | (refine boolRes_true rfl ?_; conv => whnf))
      refine ⟨_, _, ?_, ⟨k + 1, by omega, rfl, rfl⟩, [], [], [], LeG.mk' rfl rfl rfl (by rw [hsn, ← hq]; repeat' (first | exact trivial | exact ⟨_, .refl _, rfl⟩ | apply And.intro)) .nil rfl rfl (by rw [hK]; rfl)⟩
      omega
    · rw [if_neg hb, Int.add_zero] at hsn
      repeat (first | refine W.seq ?_ | (refine W.reg env hN (by kernel_rfl) ?_; conv => whnf) | refine W.condT rfl ?_ | refine W.condF rfl ?_ | (refine W.skip ?_; conv => whnf) | (refine W.exit ?_; conv => whnf) | refine W.block ?_ | (refine fun (hlen : (_ : Nat) ≤ _) => ?_; conv => whnf) | (refine okFp_intro (by kernel_rfl) ?_; conv => whnf) | (refine And.intro rfl ?_; conv => whnf) | (refine And.intro (by omega) ?_; conv => whnf) | (refine rowAt_of rfl ?_; conv => whnf) | (refine boolRes_true (by omega) ?_; conv => whnf) | (refine boolRes_false (by omega) ?_; conv => whnf) | (refine boolRes_true rfl ?_; conv => whnf))
      refine ⟨_, _, ?_, ⟨k + 1, by omega, rfl, rfl⟩, [], [], [], LeG.mk' rfl rfl rfl (by rw [hsn]; repeat' (first | exact trivial | exact ⟨_, .refl _, rfl⟩ | apply And.intro)) .nil rfl rfl (by rw [hK]; rfl)⟩
      omega
  · have hke : k = ds.length := by omega
    subst hke
    rw [List.take_length]
    repeat (first | refine W.seq ?_ | (refine W.reg env hN (by kernel_rfl) ?_; conv => whnf) | refine W.condT rfl ?_ | refine W.condF rfl ?_ | (refine W.skip ?_; conv => whnf) | (refine W.exit ?_; conv => whnf) | refine W.block ?_ | (refine fun (hlen : (_ : Nat) ≤ _) => ?_; conv => whnf) | (refine okFp_intro (by kernel_rfl) ?_; conv => whnf) | (refine And.intro rfl ?_; conv => whnf) | (refine And.intro (by omega) ?_; conv => whnf) | (refine rowAt_of rfl ?_; conv => whnf) | (refine boolRes_true (by omega) ?_; conv => whnf) | (refine boolRes_false (by omega) ?_; conv => whnf) | (refine boolRes_true rfl ?_; conv => whnf) | (refine W.ret ?_; conv => whnf))
    exact ret0 rfl rfl rfl
def txt (i : Nat) : List UInt8 := [UInt8.ofNat (97 + i / 26), UInt8.ofNat (97 + i % 26)]
def txts (n : Nat) : List (List UInt8) := (List.range n).map txt
theorem txts_succ (n : Nat) : txts (n + 1) = txts n ++ [txt n] := by simp [txts, List.range_succ]
theorem txts_len (n : Nat) : (txts n).length = n := by simp [txts]
theorem txt_inj {i j : Nat} (hi : i < 200) (hj : j < 200) (h : txt i = txt j) : i = j := by
  simp only [txt, List.cons.injEq, and_true] at h
  obtain ⟨h1, h2⟩ := h
  have h1 := congrArg UInt8.toNat h1
  have h2 := congrArg UInt8.toNat h2
  simp only [UInt8.toNat_ofNat'] at h1 h2
  omega
theorem txts_nodup {n : Nat} (h : n ≤ 200) : (txts n).Nodup := by
  unfold txts
  rw [List.nodup_iff_pairwise_ne, List.pairwise_map]
  refine List.Pairwise.imp_of_mem (fun {a b} ha hb hab e => ?_) (List.nodup_iff_pairwise_ne.1 List.nodup_range)
  exact hab (txt_inj (by have := List.mem_range.1 ha; omega) (by have := List.mem_range.1 hb; omega) e)
theorem txt_new {n : Nat} (h : n < 200) : (txts n).count (txt n) = 0 := by
  rw [List.count_eq_zero]
  intro hm
  obtain ⟨i, hi, he⟩ := List.mem_map.1 hm
  have := List.mem_range.1 hi
  have := txt_inj (by omega) h he
  omega
theorem out_ones {x : Spill} {l : List (List UInt8)} {m : Int} (hx : Way x l m) (hn : l.Nodup) : x.out.length = l.length := by
  obtain ⟨sx, px⟩ := out_good hx.good
  have hone : ∀ c ∈ x.out, c.count = 1 := fun c hc => by
    obtain ⟨_, _, _, _, h5⟩ := counts_facts hx hx (fun _ => rfl)
    have h6 := h5 c hc
    have h7 : l.count c.text ≤ 1 := List.nodup_iff_count.1 hn _
    have h8 := px c hc
    omega
  have htot := out_total hx.good
  have : ∀ {u : List Count}, (∀ c ∈ u, c.count = 1) → total u = u.length := by
    intro u
    induction u with
    | nil => intro _; simp [total]
    | cons c u ih =>
      intro h
      rw [total_cons, ih fun d hd => h d (List.mem_cons_of_mem _ hd), h c (by simp), List.length_cons]; omega
  rw [this hone] at htot
  omega
structure Fill (s : Spill) (n : Nat) (m : Int) (R : Int) (r b : Nat) : Prop where
  way : Way s (txts n) m
  wr : s.Wr
  len : sumLen s.runs + b = n
  buf : s.buf.length = b
  runs : (s.runs.length : Int) = R + r
theorem Fill.push {s : Spill} {n : Nat} {m R : Int} {r b : Nat} (h : Fill s n m R r b) (hn : n < 200) :
    ((b : Int) = m ∧ Fill (s.push (txt n)) (n + 1) m R (r + 1) 1) ∨ ((b : Int) < m ∧ Fill (s.push (txt n)) (n + 1) m R r (b + 1)) := by
  obtain ⟨h1, h2, h3, h4, h5⟩ := h
  have hw := h1.pushW (by rw [txts_len]; omega) (txt n)
  rw [← txts_succ] at hw
  have hnot : txt n ∉ s.texts := fun hm => by
    have h6 := (cnt_texts h1.good.pos (txt n)).2 hm
    have h7 := h1.cnt (txt n)
    rw [txt_new hn] at h7
    have h8 : 0 ≤ cntR s.runs (txt n) := by
      have : ∀ {rs : List (List Count)}, (∀ r ∈ rs, Pos r) → 0 ≤ cntR rs (txt n) := by
        intro rs
        induction rs with
        | nil => intro _; simp [cntR]
        | cons q rs ih =>
          intro hq
          have := cnt_nonneg (hq q (by simp)) (txt n)
          have := ih fun x hx => hq x (List.mem_cons_of_mem _ hx)
          simp only [cntR]; omega
      exact this fun r hr => (h1.good.runs r hr).2.1
    simp only [Spill.cnt] at h7
    omega
  have hb := texts_len (s.push (txt n))
  rcases push_cases h1.good (txt n) with ⟨g1, _, _⟩ | ⟨_, g0, g2, g3⟩ | ⟨_, g0, g2, g3⟩
  · exact absurd g1 hnot
  · refine .inl ⟨by rw [← h4, g0, h1.mem], hw, wr_push h2 _, ?_, by rw [← hb, g2]; rfl, by rw [g3]; simp; omega⟩
    rw [g3, sumLen_append]
    simp only [sumLen, List.map_cons, List.map_nil, List.sum_cons, List.sum_nil] at h3 ⊢
    omega
  · refine .inr ⟨by rw [← h4, ← h1.mem]; exact g0, hw, wr_push h2 _, by rw [g3]; omega, ?_, by rw [g3, h5]⟩
    rw [← hb, g2]
    have h6 := rank_le s.buf (txt n)
    have h7 := texts_len s
    simp only [List.length_append, List.length_take, List.length_cons, List.length_drop]
    omega
theorem Fill.flush {s : Spill} {n : Nat} {m R : Int} {r b : Nat} (h : Fill s n m R r b) (hn : n < 200) : Fill s.flush n m (R + r + if 0 < b then 1 else 0) 0 0 := by
  obtain ⟨h1, h2, h3, h4, h5⟩ := h
  have hwr := wr_flush h2
  have hg := h1.good.flush
  have hsl := flush_sumLen s
  have hb := wr_bounds hg hwr
  refine ⟨⟨hg, fun u => by rw [flush_cnt, h1.cnt], ?_, by rw [flush_mem, h1.mem]⟩, hwr, by omega, by rw [flush_buf]; rfl, ?_⟩
  · rw [txts_len] at hb ⊢; omega
  · by_cases he : s.buf = []
    · rw [flush_nil he]
      rw [he] at h4
      simp at h4
      rw [if_neg (by omega)]; omega
    · rw [flush_cons he]
      have := List.length_pos_iff.2 he
      rw [if_pos (by omega)]
      simp; omega
end Go.Sx.Sp
namespace Go.Sx.Sp
open Go Go.Sx Go.Proofs
attribute [local irreducible] GoodW
theorem txt_rows {n : Nat} (h : n < 200) : byteRows (txt n) = [[.int .u8 (IntKind.u8.wrap (97 + IntKind.u8.wrap ((n : Int).tdiv 26)))], [.int .u8 (IntKind.u8.wrap (97 + IntKind.u8.wrap ((n : Int).tmod 26)))]] := by
  have e1 : (n : Int).tdiv 26 = ((n / 26 : Nat) : Int) := by rw [Int.tdiv_eq_ediv_of_nonneg (by omega)]; rfl
  have e2 : (n : Int).tmod 26 = ((n % 26 : Nat) : Int) := by rw [Int.tmod_eq_emod_of_nonneg (by omega)]; rfl
  have w1 : IntKind.u8.wrap ((n / 26 : Nat) : Int) = ((n / 26 : Nat) : Int) := IntWalk.u8_in _ (by omega)
  have w2 : IntKind.u8.wrap ((n % 26 : Nat) : Int) = ((n % 26 : Nat) : Int) := IntWalk.u8_in _ (by omega)
  rw [e1, e2, w1, w2, IntWalk.u8_in _ (by omega), IntWalk.u8_in _ (by omega)]
  simp only [byteRows, txt, List.map_cons, List.map_nil, UInt8.toNat_ofNat', List.cons.injEq, V.int.injEq, and_true, true_and]
  constructor <;> omega
theorem conv_txt {N : Nat} {o : Oper} {h : Nat → List Blk} {ρ : Operand → V} {x : Operand} (hop : o.op = .convert 22 9 x) {k n : Nat} (hn : n < 200) (hx : ρ x = .osl k 0 0 2 2)
    (hh : h k = [.rows 1 [[.int .u8 (IntKind.u8.wrap (97 + IntKind.u8.wrap ((n : Int).tdiv 26)))], [.int .u8 (IntKind.u8.wrap (97 + IntKind.u8.wrap ((n : Int).tmod 26)))]] none]) (hd : dstOK N o.dst = true) : GoodW Try.prog N o ρ h (.str (txt n)) [] [k] :=
  (convBytes_good (P := Try.prog) (T := T) env.table hop (e := 5) rfl rfl rfl (bs := txt n) hx (by rw [hh, txt_rows hn]; rfl) rfl rfl (by simp [txt]) (by simp [txt, maxLen])).toW hd
theorem digits_le : ∀ n : Nat, digits n ≤ n := by
  intro n
  induction n using Nat.strongRecOn with
  | _ n ih =>
    rcases Nat.eq_zero_or_pos n with rfl | h
    · rw [digits]; omega
    · rw [digits_pos h]
      have := ih (n / 2) (by omega)
      omega
theorem part_runs {m : Int} (hm : 2 ≤ m) {k r b : Nat} (he : (b : Int) + m * r = k) (h0 : k = 0 → b = 0 ∧ r = 0) (h1 : 0 < k → 1 ≤ b ∧ (b : Int) ≤ m) : (r : Int) + (if 0 < b then 1 else 0) = if (0 : Int) < k then ((k : Int) - 1) / m + 1 else 0 := by
  rcases Nat.eq_zero_or_pos k with hk | hk
  · obtain ⟨rfl, rfl⟩ := h0 hk
    subst hk; simp
  · obtain ⟨g1, g2⟩ := h1 hk
    rw [if_pos (by omega), if_pos (by omega)]
    have : ((k : Int) - 1) / m = r := by
      rw [← he, show (b : Int) + m * r - 1 = (b - 1) + m * r by omega, Int.add_mul_ediv_left _ _ (by omega), Int.ediv_eq_zero_of_lt (by omega) (by omega)]
      omega
    rw [this]
set_option maxHeartbeats 16000000 in
theorem writes_spec (z : List Int) (a : Int) (hz : Bytes z) (ha : 0 ≤ a ∧ a ≤ 255) : Spec Try.prog 5 [.sl (intRows .u8 z) false, .int .u8 a] [] (.bool true) [] := by
  have hzl := intRows_len .u8 z
  by_cases hlong : 8 < z.length
  · refine Spec.body env Try.func5 rfl (by kernel_rfl) (Nat.le_of_ble_eq_true (by kernel_rfl)) (keysSub rfl) fun Γ hN hK => ?_; have hML : maxLen = 9223372036854775807 := by unfold maxLen; rfl
    repeat (first | refine W.seq ?_ | (refine W.reg env hN (by kernel_rfl) ?_; conv => whnf) | refine W.condT rfl ?_ | refine W.condF rfl ?_ | (refine W.skip ?_; conv => whnf) | (refine W.exit ?_; conv => whnf) | refine W.block ?_ | (refine fun (hlen : (_ : Nat) ≤ _) => ?_; conv => whnf) | (refine okFp_intro (by kernel_rfl) ?_; conv => whnf) | (refine And.intro rfl ?_; conv => whnf) | (refine And.intro (by omega) ?_; conv => whnf) | (refine rowAt_of rfl ?_; conv => whnf) | (refine boolRes_true (by omega) ?_; conv => whnf) | (refine boolRes_false (by omega) ?_; conv => whnf) | (refine boolRes_true rfl ?_; conv => whnf))
    (refine ⟨_, _, _, callG [] [] [] rfl rfl rfl (by kernel_rfl) (sane_spec) (by repeat' (first | exact trivial | exact Lent.refl _ | exact Lent.norm _ | apply And.intro)) rfl ⟨rfl, rfl, rfl, rfl, rfl, by repeat' (first | exact trivial | rfl | apply And.intro), rfl, rfl⟩, ?_⟩; conv => whnf)
    repeat (first | refine W.seq ?_ | (refine W.reg env hN (by kernel_rfl) ?_; conv => whnf) | refine W.condT rfl ?_ | refine W.condF rfl ?_ | (refine W.skip ?_; conv => whnf) | (refine W.exit ?_; conv => whnf) | refine W.block ?_ | (refine fun (hlen : (_ : Nat) ≤ _) => ?_; conv => whnf) | (refine okFp_intro (by kernel_rfl) ?_; conv => whnf) | (refine And.intro rfl ?_; conv => whnf) | (refine And.intro (by omega) ?_; conv => whnf) | (refine rowAt_of rfl ?_; conv => whnf) | (refine boolRes_true (by omega) ?_; conv => whnf) | (refine boolRes_false (by omega) ?_; conv => whnf) | (refine boolRes_true rfl ?_; conv => whnf) | (refine W.ret ?_; conv => whnf))
    exact ret0 rfl rfl rfl
  obtain ⟨m, hm⟩ : ∃ m : Int, m = 2 + a % 5 := ⟨_, rfl⟩
  have hA : a.tmod 5 = a % 5 := Int.tmod_eq_emod_of_nonneg ha.1
  have hfm : fits m = true := by simp [fits]; omega
  have hw0 := Way.new (m := m) (by omega)
  have hf0 : Fill (Spill.new m) 0 m 0 0 0 := ⟨hw0, rfl, rfl, rfl, rfl⟩
  refine Spec.body env Try.func5 rfl (by kernel_rfl) (Nat.le_of_ble_eq_true (by kernel_rfl)) (keysSub rfl) fun Γ hN hK => ?_; have hML : maxLen = 9223372036854775807 := by unfold maxLen; rfl
  repeat (first | refine W.seq ?_ | (refine W.reg env hN (by kernel_rfl) ?_; conv => whnf) | refine W.condT rfl ?_ | refine W.condF rfl ?_ | (refine W.skip ?_; conv => whnf) | (refine W.exit ?_; conv => whnf) | refine W.block ?_ | (refine fun (hlen : (_ : Nat) ≤ _) => ?_; conv => whnf) | (refine okFp_intro (by kernel_rfl) ?_; conv => whnf) | (refine And.intro rfl ?_; conv => whnf) | (refine And.intro (by omega) ?_; conv => whnf) | (refine rowAt_of rfl ?_; conv => whnf) | (refine boolRes_true (by omega) ?_; conv => whnf) | (refine boolRes_false (by omega) ?_; conv => whnf) | (refine boolRes_true rfl ?_; conv => whnf))
  (refine ⟨_, _, _, callG [] [] [] rfl rfl rfl (by kernel_rfl) (sane_spec) (by repeat' (first | exact trivial | exact Lent.refl _ | exact Lent.norm _ | apply And.intro)) rfl ⟨rfl, rfl, rfl, rfl, rfl, by repeat' (first | exact trivial | rfl | apply And.intro), rfl, rfl⟩, ?_⟩; conv => whnf)
  repeat (first | refine W.seq ?_ | (refine W.reg env hN (by kernel_rfl) ?_; conv => whnf) | refine W.condT rfl ?_ | refine W.condF rfl ?_ | (refine W.skip ?_; conv => whnf) | (refine W.exit ?_; conv => whnf) | refine W.block ?_ | (refine fun (hlen : (_ : Nat) ≤ _) => ?_; conv => whnf) | (refine okFp_intro (by kernel_rfl) ?_; conv => whnf) | (refine And.intro rfl ?_; conv => whnf) | (refine And.intro (by omega) ?_; conv => whnf) | (refine rowAt_of rfl ?_; conv => whnf) | (refine boolRes_true (by omega) ?_; conv => whnf) | (refine boolRes_false (by omega) ?_; conv => whnf) | (refine boolRes_true rfl ?_; conv => whnf))
  rw [show 2 + a.tmod 5 = m by omega]
  (refine ⟨_, _, _, callG [] [] [] rfl rfl rfl (by kernel_rfl) (new_spec m hfm) (by repeat' (first | exact trivial | exact Lent.refl _ | exact Lent.norm _ | apply And.intro)) rfl ⟨rfl, rfl, rfl, rfl, rfl, by repeat' (first | exact trivial | rfl | apply And.intro), rfl, rfl⟩, ?_⟩; conv => whnf)
  repeat (first | refine W.seq ?_ | (refine W.reg env hN (by kernel_rfl) ?_; conv => whnf) | (refine W.skip ?_; conv => whnf) | (refine W.exit ?_; conv => whnf) | refine W.block ?_ | (refine fun (hlen : (_ : Nat) ≤ _) => ?_; conv => whnf) | (refine okFp_intro (by kernel_rfl) ?_; conv => whnf) | (refine And.intro rfl ?_; conv => whnf) | (refine And.intro (by omega) ?_; conv => whnf) | (refine rowAt_of rfl ?_; conv => whnf) | (refine boolRes_true (by omega) ?_; conv => whnf) | (refine boolRes_false (by omega) ?_; conv => whnf) | (refine boolRes_true rfl ?_; conv => whnf))
  refine W.condF rfl ?_
  refine W.skip ?_
  conv => whnf
  repeat (first | refine W.seq ?_ | (refine W.reg env hN (by kernel_rfl) ?_; conv => whnf) | (refine W.skip ?_; conv => whnf) | (refine W.exit ?_; conv => whnf) | refine W.block ?_ | (refine fun (hlen : (_ : Nat) ≤ _) => ?_; conv => whnf) | (refine okFp_intro (by kernel_rfl) ?_; conv => whnf) | (refine And.intro rfl ?_; conv => whnf) | (refine And.intro (by omega) ?_; conv => whnf) | (refine rowAt_of rfl ?_; conv => whnf) | (refine boolRes_true (by omega) ?_; conv => whnf) | (refine boolRes_false (by omega) ?_; conv => whnf) | (refine boolRes_true rfl ?_; conv => whnf))
  refine W.ownNil 7 70 1 (by rfl) (by rfl) ?_
  refine W.loopG (fun k st => ∃ (j n : Nat) (s : Spill) (ds : List Int), j ≤ z.length ∧ n ≤ 8 * j ∧ ds.length = j ∧ (∀ d ∈ ds, 0 ≤ d ∧ d ≤ 8) ∧ Fill s n m (runsOf ds m) 0 0 ∧ k = z.length - j ∧ st = ⟨[(5, .bp 5 0), (6, .int .i64 0), (7, .osl 70 0 0 (intRows .i64 ds).length (intRows .i64 ds).length), (8, .int .i64 n), (33, .sl (intRows .u8 z) false), (34, .int .i64 (intRows .u8 z).length), (35, .int .i64 j)], [(5, [s.blk]), (70, [.rows 1 (intRows .i64 ds) (some [])])], [5, 70]⟩)
    z.length _ ⟨0, 0, Spill.new m, [], by omega, by omega, rfl, by simp, hf0, rfl, rfl⟩ ⟨[(5, 5), (70, 70)], [], [], LeG.mk' rfl rfl rfl (by repeat' (first | exact trivial | exact ⟨_, .refl _, rfl⟩ | apply And.intro)) (.cons 5 rfl rfl (.refl _) rfl (.cons 70 rfl rfl (.refl _) rfl .nil)) rfl rfl (by rw [hK]; rfl)⟩ ?_
  rintro k st ⟨j, n, s, ds, hj, hn, hdl, hds, hf, rfl, rfl⟩
  have hil := intRows_len .i64 ds
  repeat (first | refine W.seq ?_ | (refine W.reg env hN (by kernel_rfl) ?_; conv => whnf) | refine W.condT rfl ?_ | refine W.condF rfl ?_ | (refine W.skip ?_; conv => whnf) | (refine W.exit ?_; conv => whnf) | refine W.block ?_ | (refine fun (hlen : (_ : Nat) ≤ _) => ?_; conv => whnf) | (refine okFp_intro (by kernel_rfl) ?_; conv => whnf) | (refine And.intro rfl ?_; conv => whnf) | (refine And.intro (by omega) ?_; conv => whnf) | (refine rowAt_of rfl ?_; conv => whnf) | (refine boolRes_true (by omega) ?_; conv => whnf) | (refine boolRes_false (by omega) ?_; conv => whnf) | (refine boolRes_true rfl ?_; conv => whnf))
  refine boolRes_split (fun hb => ?_) (fun hb => ?_) <;> conv => whnf
  · have hlt : j < z.length := by omega
    have hx : (intRows .u8 z)[j]? = some [.int .u8 z[j]] := by simp [intRows, hlt]
    have hzj := hz z[j] (List.getElem_mem hlt)
    obtain ⟨k, hk⟩ : ∃ k : Nat, (z[j]).tmod 9 = (k : Int) := Int.eq_ofNat_of_zero_le (show 0 ≤ (z[j]).tmod 9 by rw [Int.tmod_eq_emod_of_nonneg hzj.1]; omega)
    have hk8 : k ≤ 8 := by rw [Int.tmod_eq_emod_of_nonneg hzj.1] at hk; omega
    have hnext : intRows .i64 ds ++ [[.int .i64 (k : Int)]] = intRows .i64 (ds ++ [(k : Int)]) := by simp [intRows]
    have hnl : (intRows .i64 (ds ++ [(k : Int)])).length = (intRows .i64 ds).length + 1 := by simp [intRows]
    have hrs := runsOf_snoc ds (k : Int) m
    generalize z[j] = zj at *
    repeat (first | refine W.seq ?_ | (refine W.reg env hN (by kernel_rfl) ?_; conv => whnf) | refine W.condT rfl ?_ | refine W.condF rfl ?_ | (refine W.skip ?_; conv => whnf) | (refine W.exit ?_; conv => whnf) | refine W.block ?_ | (refine fun (hlen : (_ : Nat) ≤ _) => ?_; conv => whnf) | (refine okFp_intro (by kernel_rfl) ?_; conv => whnf) | (refine And.intro rfl ?_; conv => whnf) | (refine And.intro (by omega) ?_; conv => whnf) | (refine rowAt_of rfl ?_; conv => whnf) | (refine boolRes_true (by omega) ?_; conv => whnf) | (refine boolRes_false (by omega) ?_; conv => whnf) | (refine boolRes_true rfl ?_; conv => whnf))
    refine rowAt_of hx ?_
    conv => whnf
    repeat (first | refine W.seq ?_ | (refine W.reg env hN (by kernel_rfl) ?_; conv => whnf) | refine W.condT rfl ?_ | refine W.condF rfl ?_ | (refine W.skip ?_; conv => whnf) | (refine W.exit ?_; conv => whnf) | refine W.block ?_ | (refine fun (hlen : (_ : Nat) ≤ _) => ?_; conv => whnf) | (refine okFp_intro (by kernel_rfl) ?_; conv => whnf) | (refine And.intro rfl ?_; conv => whnf) | (refine And.intro (by omega) ?_; conv => whnf) | (refine rowAt_of rfl ?_; conv => whnf) | (refine boolRes_true (by omega) ?_; conv => whnf) | (refine boolRes_false (by omega) ?_; conv => whnf) | (refine boolRes_true rfl ?_; conv => whnf))
    rw [hk]
    refine ⟨⟨rfl, rfl⟩, ⟨?_, ?_⟩, .inl ⟨rfl, rfl, ?_⟩⟩
    · show ((intRows .i64 ds).length + 1) * 8 ≤ _; omega
    · show (intRows .i64 ds).length + 1 ≤ _; omega
    conv => whnf
    repeat (first | refine W.seq ?_ | (refine W.reg env hN (by kernel_rfl) ?_; conv => whnf) | refine W.condT rfl ?_ | refine W.condF rfl ?_ | (refine W.skip ?_; conv => whnf) | (refine W.exit ?_; conv => whnf) | refine W.block ?_ | (refine fun (hlen : (_ : Nat) ≤ _) => ?_; conv => whnf) | (refine okFp_intro (by kernel_rfl) ?_; conv => whnf) | (refine And.intro rfl ?_; conv => whnf) | (refine And.intro (by omega) ?_; conv => whnf) | (refine rowAt_of rfl ?_; conv => whnf) | (refine boolRes_true (by omega) ?_; conv => whnf) | (refine boolRes_false (by omega) ?_; conv => whnf) | (refine boolRes_true rfl ?_; conv => whnf))
    refine W.loopG (fun q st => ∃ (i r b : Nat) (s' : Spill), i ≤ k ∧ Fill s' (n + i) m (runsOf ds m) r b ∧ (b : Int) + m * r = i ∧ (i = 0 → b = 0 ∧ r = 0) ∧ (0 < i → 1 ≤ b ∧ (b : Int) ≤ m) ∧ q = k - i ∧ st = ⟨[(5, .bp 5 0), (6, .int .i64 0), (7, .osl 70 0 0 (intRows .i64 (ds ++ [(k : Int)])).length (intRows .i64 (ds ++ [(k : Int)])).length), (8, .int .i64 (n + i : Nat)), (33, .sl (intRows .u8 z) false), (34, .int .i64 (intRows .u8 z).length), (35, .int .i64 j), (11, .int .i64 k), (12, .int .i64 i)], [(5, [s'.blk]), (70, [.rows 1 (intRows .i64 (ds ++ [(k : Int)])) (some [])])], [5, 70]⟩)
      k _ ⟨0, 0, 0, s, by omega, hf, by simp, fun _ => ⟨rfl, rfl⟩, by omega, rfl, rfl⟩ ⟨[(5, 5), (70, 70)], [], [], LeG.mk' rfl rfl rfl (by rw [hnl]; repeat' (first | exact trivial | exact ⟨_, .refl _, rfl⟩ | apply And.intro)) (.cons 5 rfl rfl (.refl _) rfl (.cons 70 rfl rfl (.refl _) (by
        show _ = [Blk.rows 1 (intRows .i64 ds ++ [[.int .i64 (k : Int)]]) (some [])]
        rw [hnext]) .nil)) rfl rfl (by rw [hK]; rfl)⟩ ?_
    rintro q st ⟨i, r, b, s', hi, hf', hbr, hz0, hz1, rfl, rfl⟩
    repeat (first | refine W.seq ?_ | (refine W.reg env hN (by kernel_rfl) ?_; conv => whnf) | refine W.condT rfl ?_ | refine W.condF rfl ?_ | (refine W.skip ?_; conv => whnf) | (refine W.exit ?_; conv => whnf) | refine W.block ?_ | (refine fun (hlen : (_ : Nat) ≤ _) => ?_; conv => whnf) | (refine okFp_intro (by kernel_rfl) ?_; conv => whnf) | (refine And.intro rfl ?_; conv => whnf) | (refine And.intro (by omega) ?_; conv => whnf) | (refine rowAt_of rfl ?_; conv => whnf) | (refine boolRes_true (by omega) ?_; conv => whnf) | (refine boolRes_false (by omega) ?_; conv => whnf) | (refine boolRes_true rfl ?_; conv => whnf))
    refine boolRes_split (fun hb => ?_) (fun hb => ?_) <;> conv => whnf
    · have hik : i < k := by omega
      have hpush := hf'.push (by omega)
      have sp := hf'.way.push_ok (by rw [txts_len]; omega) (txt (n + i))
      have hmr : m * ((r + 1 : Nat) : Int) = m * r + m := by rw [Int.natCast_add, Int.mul_add]; simp
      generalize hs1 : s'.push (txt (n + i)) = s1 at *
      have htd : (((n + i : Nat) : Int)).tdiv 26 = (((n + i) / 26 : Nat) : Int) := by rw [Int.tdiv_eq_ediv_of_nonneg (by omega)]; rfl
      repeat (first | refine W.seq ?_ | (refine W.reg env hN (by kernel_rfl) ?_; conv => whnf) | refine W.condT rfl ?_ | refine W.condF rfl ?_ | (refine W.skip ?_; conv => whnf) | (refine W.exit ?_; conv => whnf) | refine W.block ?_ | (refine fun (hlen : (_ : Nat) ≤ _) => ?_; conv => whnf) | (refine okFp_intro (by kernel_rfl) ?_; conv => whnf) | (refine And.intro rfl ?_; conv => whnf) | (refine And.intro (by omega) ?_; conv => whnf) | (refine rowAt_of rfl ?_; conv => whnf) | (refine boolRes_true (by omega) ?_; conv => whnf) | (refine boolRes_false (by omega) ?_; conv => whnf) | (refine boolRes_true rfl ?_; conv => whnf))
      refine ⟨_, _, _, conv_txt rfl (n := n + i) (by omega) rfl rfl (by kernel_rfl), ?_⟩
      conv => whnf
      repeat (first | refine W.seq ?_ | (refine W.reg env hN (by kernel_rfl) ?_; conv => whnf) | refine W.condT rfl ?_ | refine W.condF rfl ?_ | (refine W.skip ?_; conv => whnf) | (refine W.exit ?_; conv => whnf) | refine W.block ?_ | (refine fun (hlen : (_ : Nat) ≤ _) => ?_; conv => whnf) | (refine okFp_intro (by kernel_rfl) ?_; conv => whnf) | (refine And.intro rfl ?_; conv => whnf) | (refine And.intro (by omega) ?_; conv => whnf) | (refine rowAt_of rfl ?_; conv => whnf) | (refine boolRes_true (by omega) ?_; conv => whnf) | (refine boolRes_false (by omega) ?_; conv => whnf) | (refine boolRes_true rfl ?_; conv => whnf))
      (refine ⟨_, _, _, callG [] [] [] rfl rfl rfl (by kernel_rfl) (sp) (by repeat' (first | exact trivial | exact Lent.refl _ | exact Lent.norm _ | apply And.intro)) rfl ⟨rfl, rfl, rfl, rfl, rfl, by repeat' (first | exact trivial | rfl | apply And.intro), rfl, rfl⟩, ?_⟩; conv => whnf)
      repeat (first | refine W.seq ?_ | (refine W.reg env hN (by kernel_rfl) ?_; conv => whnf) | refine W.condT rfl ?_ | refine W.condF rfl ?_ | (refine W.skip ?_; conv => whnf) | (refine W.exit ?_; conv => whnf) | refine W.block ?_ | (refine fun (hlen : (_ : Nat) ≤ _) => ?_; conv => whnf) | (refine okFp_intro (by kernel_rfl) ?_; conv => whnf) | (refine And.intro rfl ?_; conv => whnf) | (refine And.intro (by omega) ?_; conv => whnf) | (refine rowAt_of rfl ?_; conv => whnf) | (refine boolRes_true (by omega) ?_; conv => whnf) | (refine boolRes_false (by omega) ?_; conv => whnf) | (refine boolRes_true rfl ?_; conv => whnf))
      rcases hpush with ⟨e1, e2⟩ | ⟨e1, e2⟩
      · refine ⟨_, _, ?_, ⟨i + 1, r + 1, 1, s1, by omega, e2, by omega, by omega, fun _ => ⟨by omega, by omega⟩, rfl, rfl⟩, ⟨[(5, 5), (70, 70)], [], [], LeG.mk' rfl rfl rfl (by repeat' (first | exact trivial | exact ⟨_, .refl _, rfl⟩ | apply And.intro)) (.cons 5 rfl rfl (.refl _) rfl (.cons 70 rfl rfl (.refl _) rfl .nil)) rfl rfl (by rw [hK]; rfl)⟩⟩
        omega
      · refine ⟨_, _, ?_, ⟨i + 1, r, b + 1, s1, by omega, e2, by omega, by omega, fun _ => ⟨by omega, by omega⟩, rfl, rfl⟩, ⟨[(5, 5), (70, 70)], [], [], LeG.mk' rfl rfl rfl (by repeat' (first | exact trivial | exact ⟨_, .refl _, rfl⟩ | apply And.intro)) (.cons 5 rfl rfl (.refl _) rfl (.cons 70 rfl rfl (.refl _) rfl .nil)) rfl rfl (by rw [hK]; rfl)⟩⟩
        omega
    · have hie : i = k := by omega
      subst hie
      have hflush := hf'.flush (by omega)
      have hpr := part_runs (m := m) (by omega) hbr hz0 hz1
      have hfo : Spec Try.prog 16 [s'.v] [] (.tup [s'.flush.v, .int .i64 0]) [] := by
        have hb := wr_bounds hf'.way.good hf'.wr
        have hl := txts_len (n + i)
        exact Flush_spec s' (hf'.way.good.small (by omega)) ⟨hb.1, by omega⟩ (hf'.way.good.flush.small (by omega)) (hf'.way.good.valid hb.1)
      have hf2 : Fill s'.flush (n + i) m (runsOf (ds ++ [(i : Int)]) m) 0 0 := by
        rw [hrs, ← hpr, ← Int.add_assoc]; exact hflush
      repeat (first | refine W.seq ?_ | (refine W.reg env hN (by kernel_rfl) ?_; conv => whnf) | refine W.condT rfl ?_ | refine W.condF rfl ?_ | (refine W.skip ?_; conv => whnf) | (refine W.exit ?_; conv => whnf) | refine W.block ?_ | (refine fun (hlen : (_ : Nat) ≤ _) => ?_; conv => whnf) | (refine okFp_intro (by kernel_rfl) ?_; conv => whnf) | (refine And.intro rfl ?_; conv => whnf) | (refine And.intro (by omega) ?_; conv => whnf) | (refine rowAt_of rfl ?_; conv => whnf) | (refine boolRes_true (by omega) ?_; conv => whnf) | (refine boolRes_false (by omega) ?_; conv => whnf) | (refine boolRes_true rfl ?_; conv => whnf))
      (refine ⟨_, _, _, callG [] [] [] rfl rfl rfl (by kernel_rfl) (hfo) (by repeat' (first | exact trivial | exact Lent.refl _ | exact Lent.norm _ | apply And.intro)) rfl ⟨rfl, rfl, rfl, rfl, rfl, by repeat' (first | exact trivial | rfl | apply And.intro), rfl, rfl⟩, ?_⟩; conv => whnf)
      repeat (first | refine W.seq ?_ | (refine W.reg env hN (by kernel_rfl) ?_; conv => whnf) | refine W.condT rfl ?_ | refine W.condF rfl ?_ | (refine W.skip ?_; conv => whnf) | (refine W.exit ?_; conv => whnf) | refine W.block ?_ | (refine fun (hlen : (_ : Nat) ≤ _) => ?_; conv => whnf) | (refine okFp_intro (by kernel_rfl) ?_; conv => whnf) | (refine And.intro rfl ?_; conv => whnf) | (refine And.intro (by omega) ?_; conv => whnf) | (refine rowAt_of rfl ?_; conv => whnf) | (refine boolRes_true (by omega) ?_; conv => whnf) | (refine boolRes_false (by omega) ?_; conv => whnf) | (refine boolRes_true rfl ?_; conv => whnf))
      refine ⟨_, _, ?_, ⟨j + 1, n + i, s'.flush, ds ++ [(i : Int)], by omega, by omega, by simp; omega, ?_, hf2, rfl, rfl⟩, ⟨[(5, 5), (70, 70)], [], [], LeG.mk' rfl rfl rfl (by repeat' (first | exact trivial | exact ⟨_, .refl _, rfl⟩ | apply And.intro)) (.cons 5 rfl rfl (.refl _) rfl (.cons 70 rfl rfl (.refl _) rfl .nil)) rfl rfl (by rw [hK]; rfl)⟩⟩
      · omega
      · intro d hd
        rcases List.mem_append.1 hd with hd | hd
        · exact hds d hd
        · simp at hd; omega
  · have hje : j = z.length := by omega
    have hrsp := runs_spec ds m (by omega) (fun d hd => by have := hds d hd; omega) (by omega)
    obtain ⟨hway, hwr, hlen, hbl, hrl⟩ := hf
    have hmem := hway.mem
    have hfin := hway.finish_ok (by rw [txts_len]; omega)
    have hone := out_ones hway (txts_nodup (by omega))
    rw [txts_len] at hone
    have hb0 : s.buf = [] := List.length_eq_zero_iff.1 hbl
    have hcost := fin_cost hb0 hwr
    have hge := fin_written_ge hwr
    have hwn : s.written = n := by
      have h1 : s.written = (sumLen s.runs : Nat) := hwr
      rw [h1]; omega
    have hsl : sumLen s.runs = n := by omega
    rw [hsl] at hcost
    have hrr := runRows_len s.runs
    have hol := countRows_len s.out
    have hru : s.runs.length ≤ n := by
      have := (hway.good.bounds).2.1
      omega
    have hmulb : n * digits s.runs.length ≤ 64 * 64 := Nat.mul_le_mul (by omega) (Nat.le_trans (digits_le _) (by omega))
    have hmulc : (n : Int) * (digits s.runs.length : Nat) = ((n * digits s.runs.length : Nat) : Int) := by rw [Int.natCast_mul]
    subst hmem
    repeat (first | refine W.seq ?_ | (refine W.reg env hN (by kernel_rfl) ?_; conv => whnf) | refine W.condT rfl ?_ | refine W.condF rfl ?_ | (refine W.skip ?_; conv => whnf) | (refine W.exit ?_; conv => whnf) | refine W.block ?_ | (refine fun (hlen : (_ : Nat) ≤ _) => ?_; conv => whnf) | (refine okFp_intro (by kernel_rfl) ?_; conv => whnf) | (refine And.intro rfl ?_; conv => whnf) | (refine And.intro (by omega) ?_; conv => whnf) | (refine rowAt_of rfl ?_; conv => whnf) | (refine boolRes_true (by omega) ?_; conv => whnf) | (refine boolRes_false (by omega) ?_; conv => whnf) | (refine boolRes_true rfl ?_; conv => whnf))
    (refine ⟨_, _, _, callG [] [] [70] rfl rfl rfl (by kernel_rfl) (hrsp) (by exact ⟨Lent.whole rfl rfl rfl rfl (.inl rfl), .refl _, trivial⟩) rfl ⟨rfl, rfl, rfl, rfl, rfl, by repeat' (first | exact trivial | rfl | apply And.intro), rfl, rfl⟩, ?_⟩; conv => whnf)
    repeat (first | refine W.seq ?_ | (refine W.reg env hN (by kernel_rfl) ?_; conv => whnf) | refine W.condT rfl ?_ | refine W.condF rfl ?_ | (refine W.skip ?_; conv => whnf) | (refine W.exit ?_; conv => whnf) | refine W.block ?_ | (refine fun (hlen : (_ : Nat) ≤ _) => ?_; conv => whnf) | (refine okFp_intro (by kernel_rfl) ?_; conv => whnf) | (refine And.intro rfl ?_; conv => whnf) | (refine And.intro (by omega) ?_; conv => whnf) | (refine rowAt_of rfl ?_; conv => whnf) | (refine boolRes_true (by omega) ?_; conv => whnf) | (refine boolRes_false (by omega) ?_; conv => whnf) | (refine boolRes_true rfl ?_; conv => whnf))
    refine W.loopG (fun k st => ∃ (d q : Nat), d + digits q = digits s.runs.length ∧ q ≤ s.runs.length ∧ k = q ∧ st = ⟨[(5, .bp 5 0), (8, .int .i64 n), (13, .int .i64 d), (14, .int .i64 q)], [(5, [s.blk])], [5]⟩)
      s.runs.length _ ⟨0, s.runs.length, by omega, by omega, rfl, rfl⟩ ⟨[(5, 5)], [], [], LeG.mk' rfl rfl rfl (by rw [← hrr]; repeat' (first | exact trivial | exact ⟨_, .refl _, rfl⟩ | apply And.intro)) (.cons 5 rfl rfl (.refl _) rfl .nil) rfl rfl (by rw [hK]; rfl)⟩ ?_
    rintro k st ⟨d, q, hd, hq, rfl, rfl⟩
    have hdl2 := digits_le s.runs.length
    repeat (first | refine W.seq ?_ | (refine W.reg env hN (by kernel_rfl) ?_; conv => whnf) | refine W.condT rfl ?_ | refine W.condF rfl ?_ | (refine W.skip ?_; conv => whnf) | (refine W.exit ?_; conv => whnf) | refine W.block ?_ | (refine fun (hlen : (_ : Nat) ≤ _) => ?_; conv => whnf) | (refine okFp_intro (by kernel_rfl) ?_; conv => whnf) | (refine And.intro rfl ?_; conv => whnf) | (refine And.intro (by omega) ?_; conv => whnf) | (refine rowAt_of rfl ?_; conv => whnf) | (refine boolRes_true (by omega) ?_; conv => whnf) | (refine boolRes_false (by omega) ?_; conv => whnf) | (refine boolRes_true rfl ?_; conv => whnf))
    refine boolRes_split (fun hb => ?_) (fun hb => ?_) <;> conv => whnf
    · have hdp := digits_pos (n := k) (by omega)
      have htd : ((k : Nat) : Int).tdiv 2 = ((k / 2 : Nat) : Int) := by rw [Int.tdiv_eq_ediv_of_nonneg (by omega)]; rfl
      repeat (first | refine W.seq ?_ | (refine W.reg env hN (by kernel_rfl) ?_; conv => whnf) | refine W.condT rfl ?_ | refine W.condF rfl ?_ | (refine W.skip ?_; conv => whnf) | (refine W.exit ?_; conv => whnf) | refine W.block ?_ | (refine fun (hlen : (_ : Nat) ≤ _) => ?_; conv => whnf) | (refine okFp_intro (by kernel_rfl) ?_; conv => whnf) | (refine And.intro rfl ?_; conv => whnf) | (refine And.intro (by omega) ?_; conv => whnf) | (refine rowAt_of rfl ?_; conv => whnf) | (refine boolRes_true (by omega) ?_; conv => whnf) | (refine boolRes_false (by omega) ?_; conv => whnf) | (refine boolRes_true rfl ?_; conv => whnf))
      refine ⟨_, _, ?_, ⟨d + 1, k / 2, by omega, by omega, rfl, rfl⟩, [(5, 5)], [], [], LeG.mk' rfl rfl rfl (by rw [← htd]; repeat' (first | exact trivial | exact ⟨_, .refl _, rfl⟩ | apply And.intro)) (.cons 5 rfl rfl (.refl _) rfl .nil) rfl rfl (by rw [hK]; rfl)⟩
      omega
    · have hk0 : k = 0 := by omega
      subst hk0
      have hd0 : digits 0 = 0 := by rw [digits]
      have hdd : d = digits s.runs.length := by omega
      subst hdd
      repeat (first | refine W.seq ?_ | (refine W.reg env hN (by kernel_rfl) ?_; conv => whnf) | refine W.condT rfl ?_ | refine W.condF rfl ?_ | (refine W.skip ?_; conv => whnf) | (refine W.exit ?_; conv => whnf) | refine W.block ?_ | (refine fun (hlen : (_ : Nat) ≤ _) => ?_; conv => whnf) | (refine okFp_intro (by kernel_rfl) ?_; conv => whnf) | (refine And.intro rfl ?_; conv => whnf) | (refine And.intro (by omega) ?_; conv => whnf) | (refine rowAt_of rfl ?_; conv => whnf) | (refine boolRes_true (by omega) ?_; conv => whnf) | (refine boolRes_false (by omega) ?_; conv => whnf) | (refine boolRes_true rfl ?_; conv => whnf))
      (refine ⟨_, _, _, callG [] [] [] rfl rfl rfl (by kernel_rfl) (hfin) (by repeat' (first | exact trivial | exact Lent.refl _ | exact Lent.norm _ | apply And.intro)) rfl ⟨rfl, rfl, rfl, rfl, rfl, by repeat' (first | exact trivial | rfl | apply And.intro), rfl, rfl⟩, ?_⟩; conv => whnf)
      repeat (first | refine W.seq ?_ | (refine W.reg env hN (by kernel_rfl) ?_; conv => whnf) | refine W.condT rfl ?_ | refine W.condF rfl ?_ | (refine W.skip ?_; conv => whnf) | (refine W.exit ?_; conv => whnf) | refine W.block ?_ | (refine fun (hlen : (_ : Nat) ≤ _) => ?_; conv => whnf) | (refine okFp_intro (by kernel_rfl) ?_; conv => whnf) | (refine And.intro rfl ?_; conv => whnf) | (refine And.intro (by omega) ?_; conv => whnf) | (refine rowAt_of rfl ?_; conv => whnf) | (refine boolRes_true (by omega) ?_; conv => whnf) | (refine boolRes_false (by omega) ?_; conv => whnf) | (refine boolRes_true rfl ?_; conv => whnf))
      (refine W.ret ?_; conv => whnf)
      exact ret0 rfl rfl rfl
end Go.Sx.Sp
