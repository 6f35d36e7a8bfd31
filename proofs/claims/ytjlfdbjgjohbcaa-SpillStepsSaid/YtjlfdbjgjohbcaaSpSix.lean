/- What merging costs, and what Runs computes. -/
import Derived.Test.YtjlfdbjgjohbcaaSpFive
set_option linter.unusedVariables false
set_option linter.unusedSimpArgs false
namespace Go.Sx.Sp
open Go Go.Sx Go.Proofs
attribute [local irreducible] GoodW
def digits : Nat → Nat
  | 0 => 0
  | n + 1 => digits ((n + 1) / 2) + 1
termination_by n => n
decreasing_by omega
theorem digits_pos {n : Nat} (h : 0 < n) : digits n = digits (n / 2) + 1 := by
  cases n with
  | zero => omega
  | succ n => rw [digits]
theorem digits_mono : ∀ {a b : Nat}, a ≤ b → digits a ≤ digits b := by
  intro a b
  induction b using Nat.strongRecOn generalizing a with
  | _ b ih =>
    intro h
    rcases Nat.eq_zero_or_pos a with rfl | ha
    · rw [digits]; omega
    · rw [digits_pos ha, digits_pos (show 0 < b by omega)]
      have := ih (b / 2) (by omega) (a := a / 2) (by omega)
      omega
def mergeN : Nat → Spill → Spill
  | 0, s => s
  | n + 1, s => mergeN n s.merge
theorem merge_of {s : Spill} {a b : List Count} {r : List (List Count)} (he : s.runs = a :: b :: r) : s.merge.runs = r ++ [merged a b] ∧ s.merge.written = s.written + (merged a b).length := by
  unfold Spill.merge; rw [he]; exact ⟨rfl, rfl⟩
theorem round : ∀ (k : Nat) (s : Spill) (pre suf : List (List Count)), s.runs = pre ++ suf → pre.length = 2 * k →
    ∃ new, (mergeN k s).runs = suf ++ new ∧ new.length = k ∧ sumLen new ≤ sumLen pre ∧ (mergeN k s).written ≤ s.written + sumLen pre
  | 0, s, pre, suf, he, hl => by
    have : pre = [] := List.length_eq_zero_iff.1 (by omega)
    subst this
    exact ⟨[], by simpa [mergeN] using he, rfl, by simp [sumLen], by simp [mergeN, sumLen]⟩
  | k + 1, s, pre, suf, he, hl => by
    rcases pre with _ | ⟨a, _ | ⟨b, pre⟩⟩
    · simp at hl
    · simp at hl; omega
    · obtain ⟨h1, h2⟩ := merge_of (s := s) (a := a) (b := b) (r := pre ++ suf) he
      have hml := merged_len a b
      obtain ⟨new, n1, n2, n3, n4⟩ := round k s.merge pre (suf ++ [merged a b]) (by rw [h1]; simp) (by simp at hl; omega)
      refine ⟨merged a b :: new, by rw [mergeN, n1]; simp, by simp [n2], ?_, ?_⟩
      · simp only [sumLen, List.map_cons, List.sum_cons] at n3 ⊢; omega
      · rw [mergeN]
        simp only [sumLen, List.map_cons, List.sum_cons] at n3 n4 ⊢
        omega
theorem mergeAll_add : ∀ (k n : Nat) (s : Spill), k < s.runs.length → mergeAll (k + n) s = mergeAll n (mergeN k s)
  | 0, n, s, _ => by simp [mergeN]
  | k + 1, n, s, h => by
    rcases hq : s.runs with _ | ⟨a, _ | ⟨b, r⟩⟩
    · rw [hq] at h; simp at h
    · rw [hq] at h; simp at h
    · rw [show k + 1 + n = (k + n) + 1 by omega, mergeAll_step hq, mergeN, mergeAll_add k n s.merge]
      rw [(merge_of hq).1]
      rw [hq] at h
      simp at h ⊢; omega
theorem merge_cost (N : Nat) : ∀ (r : Nat) (s : Spill) (m : Nat), s.runs.length = r → r ≤ m + 1 → sumLen s.runs ≤ N → (mergeAll m s).written ≤ s.written + (N * digits (r - 1) : Nat) := by
  intro r
  induction r using Nat.strongRecOn with
  | _ r ih =>
    intro s m hr hm hN
    rcases Nat.lt_or_ge r 2 with h | h
    · rw [mergeAll_short m (by omega)]; omega
    · have hsplit : s.runs = s.runs.take (2 * (r / 2)) ++ s.runs.drop (2 * (r / 2)) := (List.take_append_drop _ _).symm
      have htl : (s.runs.take (2 * (r / 2))).length = 2 * (r / 2) := by rw [List.length_take]; omega
      obtain ⟨new, n1, n2, n3, n4⟩ := round (r / 2) s _ _ hsplit htl
      have hsum : sumLen s.runs = sumLen (s.runs.take (2 * (r / 2))) + sumLen (s.runs.drop (2 * (r / 2))) := by
        conv => lhs; rw [hsplit]
        rw [sumLen_append]
      have hlen : (mergeN (r / 2) s).runs.length = r - r / 2 := by
        rw [n1, List.length_append, n2, List.length_drop]; omega
      have hle : sumLen (mergeN (r / 2) s).runs ≤ N := by rw [n1, sumLen_append]; omega
      have hadd := mergeAll_add (r / 2) (m - r / 2) s (by omega)
      rw [show r / 2 + (m - r / 2) = m by omega] at hadd
      have hrec := ih (r - r / 2) (by omega) (mergeN (r / 2) s) (m - r / 2) hlen (by omega) hle
      rw [hadd]
      have hd : digits (r - 1) = digits (r - r / 2 - 1) + 1 := by
        rw [digits_pos (show 0 < r - 1 by omega), show (r - 1) / 2 = r - r / 2 - 1 by omega]
      rw [hd, Nat.mul_add, Nat.mul_one]
      omega
theorem fin_cost {s : Spill} (h : s.buf = []) (hw : s.Wr) : s.fin.written - s.written ≤ (sumLen s.runs * digits s.runs.length : Nat) := by
  have h1 : s.flush = s := flush_nil h
  have h2 := merge_cost (sumLen s.runs) s.runs.length s s.runs.length rfl (by omega) (Nat.le_refl _)
  have h3 : sumLen s.runs * digits (s.runs.length - 1) ≤ sumLen s.runs * digits s.runs.length := Nat.mul_le_mul_left _ (digits_mono (by omega))
  unfold Spill.fin
  rw [h1]
  omega
end Go.Sx.Sp
namespace Go.Sx.Sp
open Go Go.Sx Go.Proofs
attribute [local irreducible] GoodW
def runsOf : List Int → Int → Int
  | [], _ => 0
  | d :: ds, m => (if 0 < d then (d - 1) / m + 1 else 0) + runsOf ds m
theorem runsOf_snoc : ∀ (ds : List Int) (d m : Int), runsOf (ds ++ [d]) m = runsOf ds m + if 0 < d then (d - 1) / m + 1 else 0
  | [], d, m => by simp [runsOf]
  | e :: ds, d, m => by simp only [List.cons_append, runsOf, runsOf_snoc ds d m]; omega
theorem runsOf_bounds {m : Int} (hm : 2 ≤ m) : ∀ {ds : List Int}, (∀ d ∈ ds, d ≤ 1099511627776) → 0 ≤ runsOf ds m ∧ runsOf ds m ≤ 1099511627777 * ds.length
  | [], _ => by simp [runsOf]
  | d :: ds, h => by
    have h1 := runsOf_bounds hm (ds := ds) fun x hx => h x (List.mem_cons_of_mem _ hx)
    have h2 := h d (by simp)
    simp only [runsOf, List.length_cons]
    split
    · have h3 : 0 ≤ (d - 1) / m := Int.ediv_nonneg (by omega) (by omega)
      have h4 : (d - 1) / m ≤ d - 1 := Int.ediv_le_self _ (by omega)
      omega
    · omega
set_option maxHeartbeats 4000000 in
theorem runs_spec (ds : List Int) (m : Int) (hm : 2 ≤ m ∧ m ≤ 65536) (hd : ∀ d ∈ ds, d ≤ 1099511627776) (hl : ds.length ≤ 10000) : Spec Try.prog 19 [.sl (intRows .i64 ds) false, .int .i64 m] [] (.int .i64 (runsOf ds m)) [] := by
  have hfm : fits m = true := by simp [fits]; omega
  have hil := intRows_len .i64 ds
  have sp := fits_spec m
  rw [hfm] at sp
  refine Spec.body env Try.func19 rfl (by kernel_rfl) (Nat.le_of_ble_eq_true (by kernel_rfl)) (keysSub rfl) fun Γ hN hK => ?_; have hML : maxLen = 9223372036854775807 := by unfold maxLen; rfl
  repeat (first | refine W.seq ?_ | (refine W.reg env hN (by kernel_rfl) ?_; conv => whnf) | refine W.condT rfl ?_ | refine W.condF rfl ?_ | (refine W.skip ?_; conv => whnf) | (refine W.exit ?_; conv => whnf) | refine W.block ?_ | (refine fun (hlen : (_ : Nat) ≤ _) => ?_; conv => whnf) | (refine okFp_intro (by kernel_rfl) ?_; conv => whnf) | (refine And.intro rfl ?_; conv => whnf) | (refine And.intro (by omega) ?_; conv => whnf) | (refine rowAt_of rfl ?_; conv => whnf) | (refine boolRes_true (by omega) ?_; conv => whnf) | (refine boolRes_false (by omega) ?_; conv => whnf) | (refine boolRes_true rfl ?_; conv => whnf))
  (refine ⟨_, _, _, callG [] [] [] rfl rfl rfl (by kernel_rfl) (sp) (by repeat' (first | exact trivial | exact Lent.refl _ | exact Lent.norm _ | apply And.intro)) rfl ⟨rfl, rfl, rfl, rfl, rfl, by repeat' (first | exact trivial | rfl | apply And.intro), rfl, rfl⟩, ?_⟩; conv => whnf)
  repeat (first | refine W.seq ?_ | (refine W.reg env hN (by kernel_rfl) ?_; conv => whnf) | refine W.condT rfl ?_ | refine W.condF rfl ?_ | (refine W.skip ?_; conv => whnf) | (refine W.exit ?_; conv => whnf) | refine W.block ?_ | (refine fun (hlen : (_ : Nat) ≤ _) => ?_; conv => whnf) | (refine okFp_intro (by kernel_rfl) ?_; conv => whnf) | (refine And.intro rfl ?_; conv => whnf) | (refine And.intro (by omega) ?_; conv => whnf) | (refine rowAt_of rfl ?_; conv => whnf) | (refine boolRes_true (by omega) ?_; conv => whnf) | (refine boolRes_false (by omega) ?_; conv => whnf) | (refine boolRes_true rfl ?_; conv => whnf))
  refine W.loopG (fun n st => ∃ k : Nat, k ≤ ds.length ∧ n = ds.length - k ∧ st = ⟨[(1, .int .i64 m), (5, .int .i64 (runsOf (ds.take k) m)), (11, .sl (intRows .i64 ds) false), (12, .int .i64 (intRows .i64 ds).length), (13, .int .i64 k)], [], []⟩)
    ds.length _ ⟨0, by omega, rfl, rfl⟩ ⟨[], [], [], LeG.mk' rfl rfl rfl (by repeat' (first | exact trivial | exact ⟨_, .refl _, rfl⟩ | apply And.intro)) .nil rfl rfl (by rw [hK]; rfl)⟩ ?_
  rintro n st ⟨k, hk, rfl, rfl⟩
  repeat (first | refine W.seq ?_ | (refine W.reg env hN (by kernel_rfl) ?_; conv => whnf) | refine W.condT rfl ?_ | refine W.condF rfl ?_ | (refine W.skip ?_; conv => whnf) | (refine W.exit ?_; conv => whnf) | refine W.block ?_ | (refine fun (hlen : (_ : Nat) ≤ _) => ?_; conv => whnf) | (refine okFp_intro (by kernel_rfl) ?_; conv => whnf) | (refine And.intro rfl ?_; conv => whnf) | (refine And.intro (by omega) ?_; conv => whnf) | (refine rowAt_of rfl ?_; conv => whnf) | (refine boolRes_true (by omega) ?_; conv => whnf) | (refine boolRes_false (by omega) ?_; conv => whnf) | (refine boolRes_true rfl ?_; conv => whnf))
  refine boolRes_split (fun hb => ?_) (fun hb => ?_) <;> conv => whnf
  · have hlt : k < ds.length := by omega
    have hx : (intRows .i64 ds)[k]? = some [.int .i64 ds[k]] := by simp [intRows, hlt]
    have hdk := hd ds[k] (List.getElem_mem hlt)
    have hb1 := runsOf_bounds hm.1 (ds := ds.take k) fun x hx => hd x (List.mem_of_mem_take hx)
    have htk : (ds.take k).length ≤ 10000 := by simp; omega
    have hs : ds.take (k + 1) = ds.take k ++ [ds[k]] := by rw [List.take_add_one, List.getElem?_eq_getElem hlt]; rfl
    have hsn := runsOf_snoc (ds.take k) ds[k] m
    rw [← hs] at hsn
    generalize ds[k] = d at *
    repeat (first | refine W.seq ?_ | (refine W.reg env hN (by kernel_rfl) ?_; conv => whnf) | refine W.condT rfl ?_ | refine W.condF rfl ?_ | (refine W.skip ?_; conv => whnf) | (refine W.exit ?_; conv => whnf) | refine W.block ?_ | (refine fun (hlen : (_ : Nat) ≤ _) => ?_; conv => whnf) | (refine okFp_intro (by kernel_rfl) ?_; conv => whnf) | (refine And.intro rfl ?_; conv => whnf) | (refine And.intro (by omega) ?_; conv => whnf) | (refine rowAt_of rfl ?_; conv => whnf) | (refine boolRes_true (by omega) ?_; conv => whnf) | (refine boolRes_false (by omega) ?_; conv => whnf) | (refine boolRes_true rfl ?_; conv => whnf))
    refine rowAt_of hx ?_
    conv => whnf
    repeat (first | refine W.seq ?_ | (refine W.reg env hN (by kernel_rfl) ?_; conv => whnf) | refine W.condT rfl ?_ | refine W.condF rfl ?_ | (refine W.skip ?_; conv => whnf) | (refine W.exit ?_; conv => whnf) | refine W.block ?_ | (refine fun (hlen : (_ : Nat) ≤ _) => ?_; conv => whnf) | (refine okFp_intro (by kernel_rfl) ?_; conv => whnf) | (refine And.intro rfl ?_; conv => whnf) | (refine And.intro (by omega) ?_; conv => whnf) | (refine rowAt_of rfl ?_; conv => whnf) | (refine boolRes_true (by omega) ?_; conv => whnf) | (refine boolRes_false (by omega) ?_; conv => whnf) | (refine boolRes_true rfl ?_; conv => whnf))
    refine boolRes_split (fun hb => ?_) (fun hb => ?_) <;> conv => whnf
    · have hq : (d - 1).tdiv m = (d - 1) / m := Int.tdiv_eq_ediv_of_nonneg (by omega)
      have h3 : 0 ≤ (d - 1) / m := Int.ediv_nonneg (by omega) (by omega)
      have h4 : (d - 1) / m ≤ d - 1 := Int.ediv_le_self _ (by omega)
      rw [if_pos hb] at hsn
      repeat (first | refine W.seq ?_ | (refine W.reg env hN (by kernel_rfl) ?_; conv => whnf) | refine W.condT rfl ?_ | refine W.condF rfl ?_ | (refine W.skip ?_; conv => whnf) | (refine W.exit ?_; conv => whnf) | refine W.block ?_ | (refine fun (hlen : (_ : Nat) ≤ _) => ?_; conv => whnf) | (refine okFp_intro (by kernel_rfl) ?_; conv => whnf) | (refine And.intro rfl ?_; conv => whnf) | (refine And.intro (by omega) ?_; conv => whnf) | (refine rowAt_of rfl ?_; conv => whnf) | (refine boolRes_true (by omega) ?_; conv => whnf) | (refine boolRes_false (by omega) ?_; conv => whnf) | (refine boolRes_true rfl ?_; conv => whnf))
      refine ⟨_, _, ?_, ⟨k + 1, by omega, rfl, rfl⟩, [], [], [], LeG.mk' rfl rfl rfl (by rw [hsn, ← hq]; repeat' (first | exact trivial | exact ⟨_, .refl _, rfl⟩ | apply And.intro)) .nil rfl rfl (by rw [hK]; rfl)⟩
      omega
    · rw [if_neg hb, Int.add_zero] at hsn
      repeat (first | refine W.seq ?_ | (refine W.reg env hN (by kernel_rfl) ?_; conv => whnf) | refine W.condT rfl ?_ | refine W.condF rfl ?_ | (refine W.skip ?_; conv => whnf) | (refine W.exit ?_; conv => whnf) | refine W.block ?_ | (refine fun (hlen : (_ : Nat) ≤ _) => ?_; conv => whnf) | (refine okFp_intro (by kernel_rfl) ?_; conv => whnf) | (refine And.intro rfl ?_; conv => whnf) | (refine And.intro (by omega) ?_; conv => whnf) | (refine rowAt_of rfl ?_; conv => whnf) | (refine boolRes_true (by omega) ?_; conv => whnf) | (refine boolRes_false (by omega) ?_; conv => whnf) | (refine boolRes_true rfl ?_; conv => whnf))
      refine ⟨_, _, ?_, ⟨k + 1, by omega, rfl, rfl⟩, [], [], [], LeG.mk' rfl rfl rfl (by rw [hsn]; repeat' (first | exact trivial | exact ⟨_, .refl _, rfl⟩ | apply And.intro)) .nil rfl rfl (by rw [hK]; rfl)⟩
      omega
  · have hke : k = ds.length := by omega
    subst hke
    rw [List.take_length]
    repeat (first | refine W.seq ?_ | (refine W.reg env hN (by kernel_rfl) ?_; conv => whnf) | refine W.condT rfl ?_ | refine W.condF rfl ?_ | (refine W.skip ?_; conv => whnf) | (refine W.exit ?_; conv => whnf) | refine W.block ?_ | (refine fun (hlen : (_ : Nat) ≤ _) => ?_; conv => whnf) | (refine okFp_intro (by kernel_rfl) ?_; conv => whnf) | (refine And.intro rfl ?_; conv => whnf) | (refine And.intro (by omega) ?_; conv => whnf) | (refine rowAt_of rfl ?_; conv => whnf) | (refine boolRes_true (by omega) ?_; conv => whnf) | (refine boolRes_false (by omega) ?_; conv => whnf) | (refine boolRes_true rfl ?_; conv => whnf) | (refine W.ret ?_; conv => whnf))
    exact ret0 rfl rfl rfl
def txt (i : Nat) : List UInt8 := [UInt8.ofNat (97 + i / 26), UInt8.ofNat (97 + i % 26)]
def txts (n : Nat) : List (List UInt8) := (List.range n).map txt
theorem txts_succ (n : Nat) : txts (n + 1) = txts n ++ [txt n] := by simp [txts, List.range_succ]
theorem txts_len (n : Nat) : (txts n).length = n := by simp [txts]
theorem txt_inj {i j : Nat} (hi : i < 200) (hj : j < 200) (h : txt i = txt j) : i = j := by
  simp only [txt, List.cons.injEq, and_true] at h
  obtain ⟨h1, h2⟩ := h
  have h1 := congrArg UInt8.toNat h1
  have h2 := congrArg UInt8.toNat h2
  simp only [UInt8.toNat_ofNat'] at h1 h2
  omega
theorem txts_nodup {n : Nat} (h : n ≤ 200) : (txts n).Nodup := by
  unfold txts
  rw [List.nodup_iff_pairwise_ne, List.pairwise_map]
  refine List.Pairwise.imp_of_mem (fun {a b} ha hb hab e => ?_) (List.nodup_iff_pairwise_ne.1 List.nodup_range)
  exact hab (txt_inj (by have := List.mem_range.1 ha; omega) (by have := List.mem_range.1 hb; omega) e)
theorem txt_new {n : Nat} (h : n < 200) : (txts n).count (txt n) = 0 := by
  rw [List.count_eq_zero]
  intro hm
  obtain ⟨i, hi, he⟩ := List.mem_map.1 hm
  have := List.mem_range.1 hi
  have := txt_inj (by omega) h he
  omega
theorem out_ones {x : Spill} {l : List (List UInt8)} {m : Int} (hx : Way x l m) (hn : l.Nodup) : x.out.length = l.length := by
  obtain ⟨sx, px⟩ := out_good hx.good
  have hone : ∀ c ∈ x.out, c.count = 1 := fun c hc => by
    obtain ⟨_, _, _, _, h5⟩ := counts_facts hx hx (fun _ => rfl)
    have h6 := h5 c hc
    have h7 : l.count c.text ≤ 1 := List.nodup_iff_count.1 hn _
    have h8 := px c hc
    omega
  have htot := out_total hx.good
  have : ∀ {u : List Count}, (∀ c ∈ u, c.count = 1) → total u = u.length := by
    intro u
    induction u with
    | nil => intro _; simp [total]
    | cons c u ih =>
      intro h
      rw [total_cons, ih fun d hd => h d (List.mem_cons_of_mem _ hd), h c (by simp), List.length_cons]; omega
  rw [this hone] at htot
  omega
structure Fill (s : Spill) (n : Nat) (m : Int) (R : Int) (r b : Nat) : Prop where
  way : Way s (txts n) m
  wr : s.Wr
  len : sumLen s.runs + b = n
  buf : s.buf.length = b
  runs : (s.runs.length : Int) = R + r
theorem Fill.push {s : Spill} {n : Nat} {m R : Int} {r b : Nat} (h : Fill s n m R r b) (hn : n < 200) :
    ((b : Int) = m ∧ Fill (s.push (txt n)) (n + 1) m R (r + 1) 1) ∨ ((b : Int) < m ∧ Fill (s.push (txt n)) (n + 1) m R r (b + 1)) := by
  obtain ⟨h1, h2, h3, h4, h5⟩ := h
  have hw := h1.pushW (by rw [txts_len]; omega) (txt n)
  rw [← txts_succ] at hw
  have hnot : txt n ∉ s.texts := fun hm => by
    have h6 := (cnt_texts h1.good.pos (txt n)).2 hm
    have h7 := h1.cnt (txt n)
    rw [txt_new hn] at h7
    have h8 : 0 ≤ cntR s.runs (txt n) := by
      have : ∀ {rs : List (List Count)}, (∀ r ∈ rs, Pos r) → 0 ≤ cntR rs (txt n) := by
        intro rs
        induction rs with
        | nil => intro _; simp [cntR]
        | cons q rs ih =>
          intro hq
          have := cnt_nonneg (hq q (by simp)) (txt n)
          have := ih fun x hx => hq x (List.mem_cons_of_mem _ hx)
          simp only [cntR]; omega
      exact this fun r hr => (h1.good.runs r hr).2.1
    simp only [Spill.cnt] at h7
    omega
  have hb := texts_len (s.push (txt n))
  rcases push_cases h1.good (txt n) with ⟨g1, _, _⟩ | ⟨_, g0, g2, g3⟩ | ⟨_, g0, g2, g3⟩
  · exact absurd g1 hnot
  · refine .inl ⟨by rw [← h4, g0, h1.mem], hw, wr_push h2 _, ?_, by rw [← hb, g2]; rfl, by rw [g3]; simp; omega⟩
    rw [g3, sumLen_append]
    simp only [sumLen, List.map_cons, List.map_nil, List.sum_cons, List.sum_nil] at h3 ⊢
    omega
  · refine .inr ⟨by rw [← h4, ← h1.mem]; exact g0, hw, wr_push h2 _, by rw [g3]; omega, ?_, by rw [g3, h5]⟩
    rw [← hb, g2]
    have h6 := rank_le s.buf (txt n)
    have h7 := texts_len s
    simp only [List.length_append, List.length_take, List.length_cons, List.length_drop]
    omega
theorem Fill.flush {s : Spill} {n : Nat} {m R : Int} {r b : Nat} (h : Fill s n m R r b) (hn : n < 200) : Fill s.flush n m (R + r + if 0 < b then 1 else 0) 0 0 := by
  obtain ⟨h1, h2, h3, h4, h5⟩ := h
  have hwr := wr_flush h2
  have hg := h1.good.flush
  have hsl := flush_sumLen s
  have hb := wr_bounds hg hwr
  refine ⟨⟨hg, fun u => by rw [flush_cnt, h1.cnt], ?_, by rw [flush_mem, h1.mem]⟩, hwr, by omega, by rw [flush_buf]; rfl, ?_⟩
  · rw [txts_len] at hb ⊢; omega
  · by_cases he : s.buf = []
    · rw [flush_nil he]
      rw [he] at h4
      simp at h4
      rw [if_neg (by omega)]; omega
    · rw [flush_cons he]
      have := List.length_pos_iff.2 he
      rw [if_pos (by omega)]
      simp; omega
end Go.Sx.Sp
