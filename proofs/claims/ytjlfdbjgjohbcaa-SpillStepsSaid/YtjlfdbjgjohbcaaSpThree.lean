/- What holds of spills that are made by pushes, and the walk of the law of memory. -/
import Derived.Test.YtjlfdbjgjohbcaaSpTwo
set_option linter.unusedVariables false
set_option linter.unusedSimpArgs false
namespace Go.Sx.Sp
open Go Go.Sx Go.Proofs
def Pos (l : List Count) : Prop := ∀ c ∈ l, 1 ≤ c.count
theorem Pos.nonneg {l : List Count} (h : Pos l) : NonNeg l := fun c hc => by have := h c hc; omega
theorem len_le_total : ∀ {l : List Count}, Pos l → (l.length : Int) ≤ total l
  | [], _ => by simp [total]
  | c :: l, h => by
    have h1 := h c (by simp)
    have h2 := len_le_total (l := l) fun x hx => h x (List.mem_cons_of_mem _ hx)
    rw [total_cons, List.length_cons]; omega
theorem isRun_of {l : List Count} (hs : Sorted l) (hp : Pos l) : isRun l = true := by
  refine run_true fun i hi => ?_
  simp only [okAt, List.getElem?_eq_getElem hi, Bool.and_eq_true, decide_eq_true_eq]
  refine ⟨hp _ (List.getElem_mem hi), ?_⟩
  cases i with
  | zero => rfl
  | succ i =>
    have h0 : i < l.length := by omega
    simp only [List.getElem?_eq_getElem h0]
    exact List.pairwise_iff_getElem.1 hs i (i + 1) h0 hi (by omega)
theorem badRun_of {l : List Count} (hs : Sorted l) (hp : Pos l) (hne : l ≠ []) : badRun l = false := by
  have : l.length ≠ 0 := fun h => hne (List.length_eq_zero_iff.1 h)
  simp [badRun, isRun_of hs hp, this]
structure Good (s : Spill) (k : Nat) : Prop where
  mem : 2 ≤ s.mem ∧ s.mem ≤ 65536
  sorted : Sorted s.buf
  pos : Pos s.buf
  room : (s.buf.length : Int) ≤ s.mem
  peak : (s.buf.length : Int) ≤ s.peak ∧ s.peak ≤ s.mem
  runs : ∀ r ∈ s.runs, Sorted r ∧ Pos r ∧ r ≠ []
  sum : total s.buf + sumTotal s.runs = k
theorem sumLen_le_total : ∀ {l : List (List Count)}, (∀ r ∈ l, Pos r) → (sumLen l : Int) ≤ sumTotal l
  | [], _ => by simp [sumLen, sumTotal]
  | r :: l, h => by
    have h1 := len_le_total (h r (by simp))
    have h2 := sumLen_le_total (l := l) fun x hx => h x (List.mem_cons_of_mem _ hx)
    simp only [sumLen, sumTotal, List.map_cons, List.sum_cons] at *
    omega
theorem len_le_sumLen : ∀ {l : List (List Count)}, (∀ r ∈ l, r ≠ []) → l.length ≤ sumLen l
  | [], _ => by simp
  | r :: l, h => by
    have h1 := List.length_pos_iff.2 (h r (by simp))
    have h2 := len_le_sumLen (l := l) fun x hx => h x (List.mem_cons_of_mem _ hx)
    simp only [sumLen, List.map_cons, List.sum_cons, List.length_cons] at *
    omega
theorem run_le_sumLen : ∀ {l : List (List Count)}, ∀ r ∈ l, r.length ≤ sumLen l
  | q :: l, r, h => by
    simp only [sumLen, List.map_cons, List.sum_cons]
    rcases List.mem_cons.1 h with e | e
    · subst e; omega
    · have := run_le_sumLen (l := l) r e
      simp only [sumLen] at this; omega
theorem Good.bounds {s : Spill} {k : Nat} (h : Good s k) : (s.buf.length : Int) + sumLen s.runs ≤ k ∧ s.runs.length ≤ sumLen s.runs ∧ 0 ≤ sumTotal s.runs ∧ 0 ≤ total s.buf := by
  have h1 := len_le_total h.pos
  have h2 := sumLen_le_total fun r hr => (h.runs r hr).2.1
  have h3 := len_le_sumLen fun r hr => (h.runs r hr).2.2
  have h4 := sumTotal_nonneg fun r hr => (h.runs r hr).2.1.nonneg
  have h5 := total_nonneg h.pos.nonneg
  have h6 := h.sum
  exact ⟨by omega, h3, h4, h5⟩
theorem Good.small {s : Spill} {k : Nat} (h : Good s k) (hk : k ≤ 1048576) : s.Small := by
  obtain ⟨h1, h2, _⟩ := h.bounds
  exact ⟨by omega, by omega, fun r hr => by have := run_le_sumLen r hr; omega⟩
theorem Good.fine {s : Spill} {k : Nat} (h : Good s k) (hk : k ≤ 1048576) (hw : 0 ≤ s.written ∧ s.written ≤ 2305843009213693952) : s.Fine := by
  obtain ⟨h1, h2, h3, h4⟩ := h.bounds
  refine ⟨h.small hk, hw, h.sorted, fun c hc => ?_⟩
  have a := h.pos c hc
  have b := count_le_total h.pos.nonneg c hc
  have c := h.sum
  omega
theorem Good.valid {s : Spill} {k : Nat} (h : Good s k) (hw : 0 ≤ s.written) : s.valid = true := by
  have hb : s.runs.any badRun = false := by
    rw [List.any_eq_false]
    intro r hr
    obtain ⟨h1, h2, h3⟩ := h.runs r hr
    simp [badRun_of h1 h2 h3]
  have hf : fits s.mem = true := by simp [fits, h.mem]
  simp [Spill.valid, hf, isRun_of h.sorted h.pos, h.peak.1, h.peak.2, hw, hb]
theorem total_bump : ∀ {l : List Count} {i : Nat}, i < l.length → total (bump l i) = total l + 1
  | c :: l, 0, _ => by simp only [bump, List.modify_cons, if_true, total_cons]; omega
  | c :: l, i + 1, h => by
    have := total_bump (l := l) (i := i) (by simpa using h)
    simp only [bump, List.modify_succ_cons, total_cons] at *
    omega
theorem bump_texts : ∀ (l : List Count) (i : Nat), (bump l i).map (·.text) = l.map (·.text)
  | [], i => by simp [bump]
  | c :: l, 0 => by simp [bump]
  | c :: l, i + 1 => by
    have := bump_texts l i
    simp only [bump, List.modify_succ_cons, List.map_cons] at *
    rw [this]
theorem bump_len (l : List Count) (i : Nat) : (bump l i).length = l.length := by simp [bump]
theorem sorted_texts {l : List Count} : Sorted l ↔ (l.map (·.text)).Pairwise fun a b => Op.bytesLess a b = true := by
  simp [Sorted, List.pairwise_map]
theorem pos_bump : ∀ {l : List Count} {i : Nat}, Pos l → Pos (bump l i)
  | [], i, h => by simpa [bump] using h
  | c :: l, 0, h => by
    intro x hx
    simp only [bump, List.modify_cons, if_true] at hx
    rcases List.mem_cons.1 hx with e | e
    · subst e; have := h c (by simp); simp only; omega
    · exact h x (List.mem_cons_of_mem _ e)
  | c :: l, i + 1, h => by
    intro x hx
    simp only [bump, List.modify_succ_cons] at hx
    rcases List.mem_cons.1 hx with e | e
    · subst e; exact h _ (by simp)
    · exact pos_bump (l := l) (i := i) (fun y hy => h y (List.mem_cons_of_mem _ hy)) x e
theorem total_insAt (l : List Count) (i : Nat) (t : List UInt8) : total (insAt l i t) = total l + 1 := by
  conv => rhs; rw [← List.take_append_drop i l]
  rw [insAt, total_append, total_append, total_cons]
  simp only; omega
theorem insAt_len {l : List Count} {i : Nat} (h : i ≤ l.length) (t : List UInt8) : (insAt l i t).length = l.length + 1 := by simp [insAt]; omega
theorem pos_insAt {l : List Count} (i : Nat) (t : List UInt8) (h : Pos l) : Pos (insAt l i t) := by
  intro c hc
  simp only [insAt, List.mem_append, List.mem_cons] at hc
  rcases hc with hc | rfl | hc
  · exact h c (List.mem_of_mem_take hc)
  · simp
  · exact h c (List.mem_of_mem_drop hc)
theorem found_false {l : List Count} {t : List UInt8} (h : found l t = false) {c : Count} (hc : l[rank l t]? = some c) : c.text ≠ t := by
  simp only [found, hc] at h
  simpa using h
theorem sorted_insAt {l : List Count} {t : List UInt8} (hs : Sorted l) (hf : found l t = false) : Sorted (insAt l (rank l t) t) := by
  have hlow : ∀ c ∈ l.take (rank l t), Op.bytesLess c.text t = true := by
    intro c hc
    obtain ⟨i, hi⟩ := List.getElem?_of_mem hc
    rw [List.getElem?_take] at hi
    split at hi
    · rename_i h; exact rank_lt h hi
    · cases hi
  have hhigh : ∀ c ∈ l.drop (rank l t), Op.bytesLess t c.text = true := by
    intro c hc
    obtain ⟨i, hi⟩ := List.getElem?_of_mem hc
    rw [List.getElem?_drop] at hi
    have h1 := rank_ge (t := t) hs (k := rank l t + i) (by omega) hi
    cases i with
    | zero =>
      exact less_total h1 (found_false hf hi)
    | succ i =>
      have hlt : rank l t < l.length := by have := (List.getElem?_eq_some_iff.1 hi).1; omega
      have h0 := rank_ge (t := t) hs (Nat.le_refl _) (List.getElem?_eq_getElem hlt)
      have h2 := less_total h0 (found_false hf (List.getElem?_eq_getElem hlt))
      have h3 := List.pairwise_iff_getElem.1 hs (rank l t) (rank l t + (i + 1)) hlt (List.getElem?_eq_some_iff.1 hi).1 (by omega)
      have h4 : l[rank l t + (i + 1)]'(List.getElem?_eq_some_iff.1 hi).1 = c := (List.getElem?_eq_some_iff.1 hi).2
      rw [h4] at h3
      exact less_trans h2 h3
  refine List.pairwise_append.2 ⟨hs.sublist (List.take_sublist _ _), List.pairwise_cons.2 ⟨hhigh, hs.sublist (List.drop_sublist _ _)⟩, fun a ha b hb => ?_⟩
  rcases List.mem_cons.1 hb with e | e
  · subst e; exact hlow a ha
  · exact less_trans (hlow a ha) (hhigh b e)
theorem sumTotal_append (a b : List (List Count)) : sumTotal (a ++ b) = sumTotal a + sumTotal b := by simp [sumTotal]
theorem sumLen_append (a b : List (List Count)) : sumLen (a ++ b) = sumLen a + sumLen b := by simp [sumLen]
theorem Good.flush {s : Spill} {k : Nat} (h : Good s k) : Good s.flush k := by
  by_cases he : s.buf = []
  · rw [flush_nil he]; exact h
  · rw [flush_cons he]
    obtain ⟨h1, h2, h3, h4, h5, h6, h7⟩ := h
    refine ⟨h1, List.Pairwise.nil, fun c hc => by simp at hc, by simp; omega, ⟨by simp; omega, h5.2⟩, fun r hr => ?_, ?_⟩
    · rcases List.mem_append.1 hr with hr | hr
      · exact h6 r hr
      · simp at hr; subst hr; exact ⟨h2, h3, he⟩
    · simp only [sumTotal_append]
      simp [sumTotal, total] at h7 ⊢
      omega
theorem Good.push {s : Spill} {k : Nat} (h : Good s k) (t : List UInt8) : Good (s.push t) (k + 1) := by
  cases hf : found s.buf t with
  | true =>
    have hlt := found_lt hf
    rw [push_found hf]
    obtain ⟨h1, h2, h3, h4, h5, h6, h7⟩ := h
    refine ⟨h1, ?_, pos_bump h3, by rw [bump_len]; exact h4, by rw [bump_len]; exact h5, h6, ?_⟩
    · rw [sorted_texts, bump_texts, ← sorted_texts]; exact h2
    · simp only [total_bump hlt]; omega
  | false =>
    by_cases hm : (s.buf.length : Int) = s.mem
    · rw [push_full hf hm]
      have hfl := h.flush
      have hmf : s.flush.mem = s.mem := by
        by_cases he : s.buf = []
        · rw [flush_nil he]
        · rw [flush_cons he]
      have hb0 := flush_buf s
      obtain ⟨h1, h2, h3, h4, h5, h6, h7⟩ := hfl
      rw [hb0] at h7
      refine ⟨h1, List.pairwise_singleton _ _, fun c hc => by simp at hc; subst hc; simp, by simp; omega, ⟨by simp; omega, by simp; omega⟩, h6, ?_⟩
      simp [total] at h7 ⊢
      omega
    · rw [push_room hf hm]
      obtain ⟨h1, h2, h3, h4, h5, h6, h7⟩ := h
      have hl := insAt_len (rank_le s.buf t) t
      refine ⟨h1, sorted_insAt h2 hf, pos_insAt _ _ h3, by simp only [hl]; omega, ⟨by simp only [hl]; omega, by simp only; omega⟩, h6, ?_⟩
      simp only [total_insAt]; omega
def Spill.Wr (s : Spill) : Prop := s.written = sumLen s.runs
theorem wr_flush {s : Spill} (h : s.Wr) : s.flush.Wr := by
  by_cases he : s.buf = []
  · rw [flush_nil he]; exact h
  · rw [flush_cons he]
    have h1 : s.written = (sumLen s.runs : Nat) := h
    have h2 : sumLen [s.buf] = s.buf.length := by simp [sumLen]
    show s.written + (s.buf.length : Int) = (sumLen (s.runs ++ [s.buf]) : Nat)
    rw [sumLen_append, h2]; omega
theorem wr_push {s : Spill} (h : s.Wr) (t : List UInt8) : (s.push t).Wr := by
  cases hf : found s.buf t with
  | true => rw [push_found hf]; exact h
  | false =>
    by_cases hm : (s.buf.length : Int) = s.mem
    · rw [push_full hf hm]; exact wr_flush h
    · rw [push_room hf hm]; exact h
theorem flush_runs_len {s : Spill} {k : Nat} (h : Good s k) : sumLen s.flush.runs ≤ k ∧ s.flush.runs.length ≤ k := by
  obtain ⟨h1, h2, _⟩ := h.flush.bounds
  omega
theorem Good.lim {s : Spill} {k : Nat} (h : Good s k) (hk : k ≤ 1048576) (hw : 0 ≤ s.flush.written ∧ s.flush.written ≤ 1099511627776) : s.flush.Lim 1048576 := by
  have h0 := h.flush
  obtain ⟨h1, h2, h3, h4⟩ := h0.bounds
  have h5 := h0.sum
  refine ⟨by omega, by omega, by omega, fun r hr => (h0.runs r hr).2.1.nonneg, by omega, hw.1, ?_⟩
  have h6 : s.flush.runs.length * 1048576 ≤ 1048576 * 1048576 := Nat.mul_le_mul_right _ (by omega)
  omega
theorem mergeAll_lim {L : Nat} : ∀ (n : Nat) (s : Spill), s.Lim L → (mergeAll n s).Lim L
  | 0, s, h => h
  | n + 1, s, h => by
    unfold mergeAll
    split
    · rename_i a b r he
      exact mergeAll_lim n _ (Lim.two h he).2.2.2.2.2.2
    · exact h
theorem fin_small {s : Spill} {L : Nat} (h : s.flush.Lim L) : s.fin.Small := by
  have hl : s.fin.Lim L := mergeAll_lim _ _ h
  have h1 := hl.small
  have h2 := hl.len
  exact ⟨by rw [fin_buf]; simp, hl.runs, fun r hr => by have := run_le_sumLen r hr; omega⟩
def pushL (s : Spill) (l : List (List UInt8)) : Spill := l.foldl Spill.push s
theorem pushL_snoc (s : Spill) (l : List (List UInt8)) (t : List UInt8) : pushL s (l ++ [t]) = (pushL s l).push t := by simp [pushL]
theorem setOf_snoc (l : List (List UInt8)) (t : List UInt8) : setOf (l ++ [t]) = setIns (setOf l) t := by simp [setOf]
def Spill.new (m : Int) : Spill := ⟨m, [], [], 0, 0⟩
theorem Good.new {m : Int} (h : 2 ≤ m ∧ m ≤ 65536) : Good (Spill.new m) 0 :=
  ⟨h, List.Pairwise.nil, fun c hc => by simp [Spill.new] at hc, by simp [Spill.new]; omega, ⟨by simp [Spill.new], by simp [Spill.new]; omega⟩, fun r hr => by simp [Spill.new] at hr, by simp [Spill.new, total, sumTotal]⟩
theorem Good.pushL {s : Spill} {k : Nat} (h : Good s k) : ∀ l : List (List UInt8), Good (Sp.pushL s l) (k + l.length) := by
  intro l
  induction l generalizing s k with
  | nil => exact h
  | cons t l ih =>
    have := ih (h.push t)
    rw [List.length_cons, show k + (l.length + 1) = k + 1 + l.length by omega]
    exact this
theorem wr_pushL {s : Spill} (h : s.Wr) : ∀ l : List (List UInt8), (Sp.pushL s l).Wr := by
  intro l
  induction l generalizing s with
  | nil => exact h
  | cons t l ih => exact ih (wr_push h t)
theorem push_mem (s : Spill) (t : List UInt8) : (s.push t).mem = s.mem := by
  have hf : s.flush.mem = s.mem := by unfold Spill.flush; split <;> rfl
  unfold Spill.push
  split
  · rfl
  · split
    · exact hf
    · rfl
theorem pushL_mem (s : Spill) : ∀ l : List (List UInt8), (pushL s l).mem = s.mem := by
  intro l
  induction l generalizing s with
  | nil => rfl
  | cons t l ih => exact (ih (s.push t)).trans (push_mem s t)
def Spill.texts (s : Spill) : List (List UInt8) := s.buf.map (·.text)
theorem found_iff {l : List Count} {t : List UInt8} (hs : Sorted l) : found l t = true ↔ t ∈ l.map (·.text) := by
  constructor
  · intro h
    have hlt := found_lt h
    simp only [found, List.getElem?_eq_getElem hlt, decide_eq_true_eq] at h
    exact List.mem_map.2 ⟨_, List.getElem_mem hlt, h⟩
  · intro h
    obtain ⟨c, hc, rfl⟩ := List.mem_map.1 h
    obtain ⟨i, hi⟩ := List.getElem?_of_mem hc
    have hil := (List.getElem?_eq_some_iff.1 hi).1
    have h1 : rank l c.text ≤ i := by
      rcases Nat.lt_or_ge i (rank l c.text) with h | h
      · have := rank_lt h hi; rw [less_irrefl] at this; cases this
      · exact h
    have hlt : rank l c.text < l.length := by omega
    have h2 : rank l c.text = i := by
      rcases Nat.lt_or_ge (rank l c.text) i with h | h
      · have h3 := List.pairwise_iff_getElem.1 hs _ _ hlt hil h
        have h4 := rank_ge (t := c.text) hs (Nat.le_refl _) (List.getElem?_eq_getElem hlt)
        rw [(List.getElem?_eq_some_iff.1 hi).2] at h3
        rw [h3] at h4; cases h4
      · omega
    simp only [found, h2, hi, decide_eq_true_eq]
theorem rank_texts (l : List Count) (t : List UInt8) : rank l t = rankS (l.map (·.text)) t := by
  unfold rank rankS
  rw [List.takeWhile_map, List.length_map]
  rfl
theorem texts_insAt (l : List Count) (t : List UInt8) (i : Nat) : (insAt l i t).map (·.text) = (l.map (·.text)).take i ++ t :: (l.map (·.text)).drop i := by simp [insAt, List.map_take, List.map_drop]
theorem setIns_texts {l : List Count} {t : List UInt8} (hs : Sorted l) : setIns (l.map (·.text)) t = match found l t with | true => l.map (·.text) | false => (insAt l (rank l t) t).map (·.text) := by
  unfold setIns
  rw [← rank_texts, texts_insAt]
  cases hf : found l t with
  | true =>
    have hlt := found_lt hf
    simp only [found, List.getElem?_eq_getElem hlt, decide_eq_true_eq] at hf
    rw [if_pos]
    simp [hlt, hf]
  | false =>
    rw [if_neg]
    intro h
    rw [List.getElem?_map, Option.map_eq_some_iff] at h
    obtain ⟨c, hc, he⟩ := h
    exact found_false hf hc he
theorem mem_setIns {out : List (List UInt8)} {t u : List UInt8} : u ∈ setIns out t ↔ u = t ∨ u ∈ out := by
  unfold setIns
  split
  · rename_i h
    have := List.mem_of_getElem? h
    constructor
    · exact .inr
    · rintro (rfl | h)
      · exact this
      · exact h
  · rw [List.mem_append, List.mem_cons]
    constructor
    · rintro (h | h | h)
      · exact .inr (List.mem_of_mem_take h)
      · exact .inl h
      · exact .inr (List.mem_of_mem_drop h)
    · rintro (h | h)
      · exact .inr (.inl h)
      · rw [← List.take_append_drop (rankS out t) out, List.mem_append] at h
        rcases h with h | h
        · exact .inl h
        · exact .inr (.inr h)
theorem setIns_ge (out : List (List UInt8)) (t : List UInt8) : out.length ≤ (setIns out t).length := by
  unfold setIns; split
  · omega
  · simp; omega
def SortedT (l : List (List UInt8)) : Prop := l.Pairwise fun a b => Op.bytesLess a b = true
theorem setIns_sorted {out : List (List UInt8)} {t : List UInt8} (hs : SortedT out) : SortedT (setIns out t) ∧ (t ∈ out → setIns out t = out) := by
  have hm : out = (out.map fun u => (⟨u, 1⟩ : Count)).map (·.text) := by simp [Function.comp_def]
  have hs' : Sorted (out.map fun u => (⟨u, 1⟩ : Count)) := by rw [sorted_texts, ← hm]; exact hs
  have h1 := setIns_texts (t := t) hs'
  rw [← hm] at h1
  cases hf : found (out.map fun u => (⟨u, 1⟩ : Count)) t with
  | true =>
    rw [hf] at h1
    simp only at h1
    rw [h1]
    exact ⟨hs, fun _ => rfl⟩
  | false =>
    rw [hf] at h1
    simp only at h1
    rw [h1]
    refine ⟨?_, fun hmem => ?_⟩
    · have := sorted_insAt hs' hf
      rw [sorted_texts] at this; exact this
    · rw [hm] at hmem
      rw [(found_iff hs').2 hmem] at hf; cases hf
theorem setOf_sorted (l : List (List UInt8)) : SortedT (setOf l) := by
  have : ∀ (l out : List (List UInt8)), SortedT out → SortedT (l.foldl setIns out) := by
    intro l
    induction l with
    | nil => exact fun _ h => h
    | cons t l ih => exact fun out h => ih _ (setIns_sorted h).1
  exact this l [] List.Pairwise.nil
theorem setOf_mono (l : List (List UInt8)) (j : Nat) : (setOf (l.take j)).length ≤ (setOf l).length := by
  have h : ∀ (l out : List (List UInt8)), out.length ≤ (l.foldl setIns out).length := by
    intro l
    induction l with
    | nil => exact fun out => Nat.le_refl _
    | cons t l ih => exact fun out => Nat.le_trans (setIns_ge out t) (ih _)
  conv => rhs; rw [← List.take_append_drop j l]
  simp only [setOf, List.foldl_append]
  exact h _ _
end Go.Sx.Sp
namespace Go.Sx.Sp
open Go Go.Sx Go.Proofs
theorem nodup_len {α : Type} [DecidableEq α] : ∀ {a b : List α}, a.Nodup → (∀ x ∈ a, x ∈ b) → a.length ≤ b.length
  | [], b, _, _ => by simp
  | x :: a, b, h1, h2 => by
    obtain ⟨h3, h4⟩ := List.nodup_cons.1 h1
    have hx := h2 x (by simp)
    have := nodup_len (a := a) (b := b.erase x) h4 fun y hy => (List.mem_erase_of_ne (fun e => h3 (by rw [← e]; exact hy))).2 (h2 y (List.mem_cons_of_mem _ hy))
    rw [List.length_erase_of_mem hx] at this
    have hp := List.length_pos_of_mem hx
    simp only [List.length_cons]; omega
theorem nodup_of_sorted {l : List (List UInt8)} (h : SortedT l) : l.Nodup := h.imp fun {a b} hab e => by rw [e, less_irrefl] at hab; cases hab
theorem texts_nodup {s : Spill} {k : Nat} (h : Good s k) : s.texts.Nodup := nodup_of_sorted (sorted_texts.1 h.sorted)
theorem texts_len (s : Spill) : s.texts.length = s.buf.length := by simp [Spill.texts]
theorem push_cases {s : Spill} {k : Nat} (h : Good s k) (t : List UInt8) :
    (t ∈ s.texts ∧ (s.push t).texts = s.texts ∧ (s.push t).runs = s.runs) ∨
    (t ∉ s.texts ∧ (s.buf.length : Int) = s.mem ∧ (s.push t).texts = [t] ∧ (s.push t).runs = s.runs ++ [s.buf]) ∨
    (t ∉ s.texts ∧ (s.buf.length : Int) < s.mem ∧ (s.push t).texts = s.texts.take (rank s.buf t) ++ t :: s.texts.drop (rank s.buf t) ∧ (s.push t).runs = s.runs) := by
  cases hf : found s.buf t with
  | true =>
    refine .inl ⟨(found_iff h.sorted).1 hf, ?_, ?_⟩ <;> rw [push_found hf]
    exact bump_texts _ _
  | false =>
    have hn : t ∉ s.texts := fun hm => by rw [(found_iff h.sorted).2 hm] at hf; cases hf
    by_cases hm : (s.buf.length : Int) = s.mem
    · have hne : s.buf ≠ [] := fun e => by have := h.mem; rw [e] at hm; simp at hm; omega
      refine .inr (.inl ⟨hn, hm, ?_, ?_⟩) <;> rw [push_full hf hm]
      · rfl
      · rw [flush_cons hne]
    · refine .inr (.inr ⟨hn, by have := h.room; omega, ?_, ?_⟩) <;> rw [push_room hf hm]
      exact texts_insAt _ _ _
theorem mem_push {s : Spill} {k : Nat} (h : Good s k) (t : List UInt8) : t ∈ (s.push t).texts ∧ ∀ u ∈ (s.push t).texts, u = t ∨ u ∈ s.texts := by
  rcases push_cases h t with ⟨h1, h2, _⟩ | ⟨_, _, h2, _⟩ | ⟨_, _, h2, _⟩ <;> rw [h2]
  · exact ⟨h1, fun u hu => .inr hu⟩
  · exact ⟨by simp, fun u hu => .inl (by simpa using hu)⟩
  · refine ⟨by simp, fun u hu => ?_⟩
    rcases List.mem_append.1 hu with hu | hu
    · exact .inr (List.mem_of_mem_take hu)
    · rcases List.mem_cons.1 hu with hu | hu
      · exact .inl hu
      · exact .inr (List.mem_of_mem_drop hu)
def Ahead (x y : Spill) : Prop := y.runs.length < x.runs.length ∨ (y.runs.length = x.runs.length ∧ ∀ u ∈ y.texts, u ∈ x.texts)
theorem Ahead.push {x y : Spill} {k k' : Nat} (hx : Good x k) (hy : Good y k') (hm : x.mem ≤ y.mem) (h : Ahead x y) (t : List UInt8) : Ahead (x.push t) (y.push t) := by
  obtain ⟨hxt, _⟩ := mem_push hx t
  rcases h with h | ⟨he, hsub⟩
  · rcases push_cases hy t with ⟨_, _, h2⟩ | ⟨_, _, h3, h2⟩ | ⟨_, _, _, h2⟩
    · refine .inl ?_
      rw [h2]
      rcases push_cases hx t with ⟨_, _, g2⟩ | ⟨_, _, _, g2⟩ | ⟨_, _, _, g2⟩ <;> rw [g2] <;> first | omega | (simp; omega)
    · have : x.runs.length ≤ (x.push t).runs.length := by
        rcases push_cases hx t with ⟨_, _, g2⟩ | ⟨_, _, _, g2⟩ | ⟨_, _, _, g2⟩ <;> rw [g2] <;> simp
      have hl : (y.push t).runs.length = y.runs.length + 1 := by rw [h2]; simp
      by_cases hh : (y.push t).runs.length < (x.push t).runs.length
      · exact .inl hh
      · exact .inr ⟨by omega, fun u hu => by rw [h3] at hu; simp at hu; subst hu; exact hxt⟩
    · refine .inl ?_
      rw [h2]
      rcases push_cases hx t with ⟨_, _, g2⟩ | ⟨_, _, _, g2⟩ | ⟨_, _, _, g2⟩ <;> rw [g2] <;> first | omega | (simp; omega)
  · have hlen : y.texts.length ≤ x.texts.length := nodup_len (texts_nodup hy) hsub
    rw [texts_len, texts_len] at hlen
    have hyu := (mem_push hy t).2
    rcases push_cases hx t with ⟨g1, g2, g3⟩ | ⟨g1, g0, g2, g3⟩ | ⟨g1, g0, g2, g3⟩
    ·
      have hroom : t ∉ y.texts → (y.buf.length : Int) < y.mem := fun hn => by
        have hd : (t :: y.texts).length ≤ x.texts.length := nodup_len (List.nodup_cons.2 ⟨hn, texts_nodup hy⟩) fun u hu => by
          rcases List.mem_cons.1 hu with e | e
          · subst e; exact g1
          · exact hsub u e
        rw [List.length_cons, texts_len, texts_len] at hd
        have := hx.room
        omega
      have hr : (y.push t).runs = y.runs := by
        rcases push_cases hy t with ⟨_, _, q⟩ | ⟨q1, q2, _, _⟩ | ⟨_, _, _, q⟩
        · exact q
        · have := hroom q1; omega
        · exact q
      refine .inr ⟨by rw [hr, g3, he], fun u hu => ?_⟩
      rw [g2]
      rcases hyu u hu with e | e
      · subst e; exact g1
      · exact hsub u e
    ·
      rcases push_cases hy t with ⟨q1, _, _⟩ | ⟨_, _, q3, q4⟩ | ⟨_, _, _, q4⟩
      · exact absurd (hsub t q1) g1
      · refine .inr ⟨by rw [q4, g3]; simp [he], fun u hu => by rw [q3] at hu; rw [g2]; exact hu⟩
      · refine .inl ?_
        rw [q4, g3]; simp; omega
    ·
      have hr : (y.push t).runs = y.runs := by
        rcases push_cases hy t with ⟨_, _, q⟩ | ⟨q1, q2, _, _⟩ | ⟨_, _, _, q⟩
        · exact q
        · omega
        · exact q
      refine .inr ⟨by rw [hr, g3, he], fun u hu => ?_⟩
      rcases hyu u hu with e | e
      · subst e; exact hxt
      · rw [g2, List.mem_append, List.mem_cons]
        have := hsub u e
        rw [← List.take_append_drop (rank x.buf t) x.texts, List.mem_append] at this
        rcases this with h | h
        · exact .inl h
        · exact .inr (.inr h)
theorem ahead_pushL {x y : Spill} {k k' : Nat} (hx : Good x k) (hy : Good y k') (hm : x.mem ≤ y.mem) (h : Ahead x y) : ∀ l : List (List UInt8), Ahead (pushL x l) (pushL y l) := by
  intro l
  induction l generalizing x y k k' with
  | nil => exact h
  | cons t l ih => exact ih (hx.push t) (hy.push t) (by rw [push_mem, push_mem]; exact hm) (h.push hx hy hm t)
theorem enough {m : Int} (hm : 2 ≤ m ∧ m ≤ 65536) (l : List (List UInt8)) (h : ((setOf l).length : Int) ≤ m) : (pushL (Spill.new m) l).runs = [] ∧ (pushL (Spill.new m) l).texts = setOf l := by
  have key : ∀ j, (pushL (Spill.new m) (l.take j)).runs = [] ∧ (pushL (Spill.new m) (l.take j)).texts = setOf (l.take j) := by
    intro j
    induction j with
    | zero => simp [pushL, Spill.new, Spill.texts, setOf]
    | succ j ih =>
      rcases Nat.lt_or_ge j l.length with hlt | hge
      · obtain ⟨h1, h2⟩ := ih
        have hg := (Good.new hm).pushL (l.take j)
        have hmono := setOf_mono l (j + 1)
        have hmem := pushL_mem (Spill.new m) (l.take j)
        rw [List.take_add_one, List.getElem?_eq_getElem hlt] at hmono ⊢
        simp only [Option.toList_some] at hmono ⊢
        rw [setOf_snoc] at hmono ⊢
        rw [pushL_snoc]
        have hst := setIns_texts (t := l[j]) hg.sorted
        have h2' : (pushL (Spill.new m) (l.take j)).buf.map (·.text) = setOf (l.take j) := h2
        rw [h2'] at hst
        rcases push_cases hg l[j] with ⟨g1, g2, g3⟩ | ⟨g1, g0, g2, g3⟩ | ⟨g1, g0, g2, g3⟩
        · refine ⟨by rw [g3, h1], ?_⟩
          rw [g2, h2, hst, (found_iff hg.sorted).2 g1]
        · have hf : found (pushL (Spill.new m) (l.take j)).buf l[j] = false := by
            cases hf : found (pushL (Spill.new m) (l.take j)).buf l[j] with
            | false => rfl
            | true => exact absurd ((found_iff hg.sorted).1 hf) g1
          rw [hf] at hst
          simp only at hst
          rw [hst, List.length_map, insAt_len (rank_le _ _)] at hmono
          rw [hmem] at g0
          have : (Spill.new m).mem = m := rfl
          omega
        · have hf : found (pushL (Spill.new m) (l.take j)).buf l[j] = false := by
            cases hf : found (pushL (Spill.new m) (l.take j)).buf l[j] with
            | false => rfl
            | true => exact absurd ((found_iff hg.sorted).1 hf) g1
          rw [hf] at hst
          refine ⟨by rw [g3, h1], ?_⟩
          rw [g2, hst, texts_insAt]
          rfl
      · rw [List.take_of_length_le (by omega)] at ih ⊢
        exact ih
  have := key l.length
  rw [List.take_length] at this
  exact this
theorem covered {m : Int} (hm : 2 ≤ m ∧ m ≤ 65536) (l : List (List UInt8)) : (setOf l).length ≤ sumLen (pushL (Spill.new m) l).runs + (pushL (Spill.new m) l).buf.length := by
  have key : ∀ j, (∀ u ∈ (pushL (Spill.new m) (l.take j)).texts, u ∈ setOf (l.take j)) ∧ (setOf (l.take j)).length ≤ sumLen (pushL (Spill.new m) (l.take j)).runs + (pushL (Spill.new m) (l.take j)).buf.length := by
    intro j
    induction j with
    | zero => simp [pushL, Spill.new, Spill.texts, setOf]
    | succ j ih =>
      rcases Nat.lt_or_ge j l.length with hlt | hge
      · obtain ⟨h1, h2⟩ := ih
        have hg := (Good.new hm).pushL (l.take j)
        rw [List.take_add_one, List.getElem?_eq_getElem hlt]
        simp only [Option.toList_some]
        rw [setOf_snoc, pushL_snoc]
        have hsub : ∀ u ∈ ((pushL (Spill.new m) (l.take j)).push l[j]).texts, u ∈ setIns (setOf (l.take j)) l[j] := fun u hu => by
          rcases (mem_push hg l[j]).2 u hu with e | e
          · exact mem_setIns.2 (.inl e)
          · exact mem_setIns.2 (.inr (h1 u e))
        refine ⟨hsub, ?_⟩
        have hle := setIns_len (setOf (l.take j)) l[j]
        rcases push_cases hg l[j] with ⟨g1, g2, g3⟩ | ⟨g1, g0, g2, g3⟩ | ⟨g1, g0, g2, g3⟩
        · rw [(setIns_sorted (setOf_sorted (l.take j))).2 (h1 _ g1), g3, ← texts_len, g2, texts_len]
          exact h2
        · rw [g3, ← texts_len, g2, sumLen_append]
          simp only [sumLen, List.map_cons, List.map_nil, List.sum_cons, List.sum_nil, List.length_cons, List.length_nil] at h2 ⊢
          omega
        · rw [g3, ← texts_len, g2]
          have h3 := texts_len (pushL (Spill.new m) (l.take j))
          have h4 := rank_le (pushL (Spill.new m) (l.take j)).buf l[j]
          simp only [List.length_append, List.length_take, List.length_cons, List.length_drop, h3]
          omega
      · rw [List.take_of_length_le (by omega)] at ih ⊢
        exact ih
  have := (key l.length).2
  rw [List.take_length] at this
  exact this
theorem merge_written {s : Spill} : s.written ≤ s.merge.written := by
  unfold Spill.merge
  split
  · simp only; omega
  · omega
theorem mergeAll_written : ∀ (n : Nat) (s : Spill), s.written ≤ (mergeAll n s).written
  | 0, s => Int.le_refl _
  | n + 1, s => by
    unfold mergeAll
    split
    · exact Int.le_trans merge_written (mergeAll_written n _)
    · exact Int.le_refl _
theorem flush_sumLen (s : Spill) : sumLen s.flush.runs = sumLen s.runs + s.buf.length := by
  by_cases he : s.buf = []
  · rw [flush_nil he, he]; simp
  · rw [flush_cons he]
    simp only [sumLen_append]
    simp [sumLen]
theorem fin_written_ge {s : Spill} (h : s.Wr) : ((sumLen s.runs + s.buf.length : Nat) : Int) ≤ s.fin.written := by
  have h1 : s.flush.written = (sumLen s.flush.runs : Nat) := wr_flush h
  rw [flush_sumLen] at h1
  have := mergeAll_written s.flush.runs.length s.flush
  unfold Spill.fin
  omega
theorem fin_written_eq {s : Spill} (h : s.Wr) (hr : s.runs = []) : s.fin.written = s.buf.length := by
  have h1 : s.flush.written = (sumLen s.flush.runs : Nat) := wr_flush h
  rw [flush_sumLen, hr] at h1
  have h2 : s.flush.runs.length ≤ 1 := by
    by_cases he : s.buf = []
    · rw [flush_nil he, hr]; simp
    · rw [flush_cons he, hr]; simp
  unfold Spill.fin
  rw [mergeAll_short _ h2, h1]
  simp [sumLen]
end Go.Sx.Sp
namespace Go.Sx.Sp
open Go Go.Sx Go.Proofs
attribute [local irreducible] GoodW
theorem wr_bounds {s : Spill} {k : Nat} (h : Good s k) (hw : s.Wr) : 0 ≤ s.written ∧ s.written ≤ k := by
  have h1 : s.written = (sumLen s.runs : Nat) := hw
  obtain ⟨h2, _⟩ := h.bounds
  omega
theorem Push_ok {s : Spill} {k : Nat} (h : Good s k) (hw : 0 ≤ s.written ∧ s.written ≤ 1099511627776) (hk : k ≤ 1000000) (t : List UInt8) : Spec Try.prog 13 [s.v, .str t] [] (.tup [(s.push t).v, .int .i64 0]) [] :=
  Push_spec s t (h.fine (by omega) ⟨hw.1, by omega⟩) ((h.push t).small (by omega)) (h.valid hw.1)
theorem flush_written_le {s : Spill} : s.flush.written ≤ s.written + s.buf.length := by
  by_cases he : s.buf = []
  · rw [flush_nil he]; omega
  · rw [flush_cons he]; simp only; omega
theorem flush_written_ge {s : Spill} : s.written ≤ s.flush.written := by
  by_cases he : s.buf = []
  · rw [flush_nil he]; omega
  · rw [flush_cons he]; simp only; omega
theorem Finish_ok {s : Spill} {k : Nat} (h : Good s k) (hw : 0 ≤ s.written ∧ s.written ≤ 1000000000) (hk : k ≤ 1000000) : Spec Try.prog 14 [s.v] [] (.tup [.sl (countRows s.out) false, s.fin.v, .int .i64 0]) [] := by
  have h1 := @flush_written_le s
  have h2 := @flush_written_ge s
  obtain ⟨h3, _⟩ := h.bounds
  have hl := h.lim (by omega) ⟨by omega, by omega⟩
  exact Finish_spec s 1048576 (h.small (by omega)) ⟨hw.1, by omega⟩ hl (fin_small hl) (h.valid hw.1)
def saneT : List (List UInt8) := [[98], [97], [98], [99], [97]]
def saneX : Spill := ⟨2, [⟨[97], 1⟩, ⟨[99], 1⟩], [[⟨[97], 1⟩, ⟨[98], 2⟩]], 2, 2⟩
theorem saneX_eq : pushL (Spill.new 2) saneT = saneX := by decide
theorem sane_merged : merged [⟨[97], 1⟩, ⟨[98], 2⟩] [⟨[97], 1⟩, ⟨[99], 1⟩] = [⟨[97], 2⟩, ⟨[98], 2⟩, ⟨[99], 1⟩] := by
  rw [merged_cons, if_neg (by decide), if_pos (by decide), merged_cons, if_pos (by decide), merged_nil_left]
  rfl
theorem saneX_fin : saneX.fin = ⟨2, [], [[⟨[97], 2⟩, ⟨[98], 2⟩, ⟨[99], 1⟩]], 2, 7⟩ := by
  have h1 : saneX.flush = ⟨2, [], [[⟨[97], 1⟩, ⟨[98], 2⟩], [⟨[97], 1⟩, ⟨[99], 1⟩]], 2, 4⟩ := by decide
  unfold Spill.fin
  rw [h1]
  show mergeAll (1 + 1) _ = _
  rw [mergeAll_step (n := 1) (a := [⟨[97], 1⟩, ⟨[98], 2⟩]) (b := [⟨[97], 1⟩, ⟨[99], 1⟩]) (r := []) rfl]
  have h2 : Spill.merge ⟨2, [], [[⟨[97], 1⟩, ⟨[98], 2⟩], [⟨[97], 1⟩, ⟨[99], 1⟩]], 2, 4⟩ = ⟨2, [], [[⟨[97], 2⟩, ⟨[98], 2⟩, ⟨[99], 1⟩]], 2, 7⟩ := by
    simp only [Spill.merge, sane_merged]
    rfl
  rw [h2, mergeAll_short _ (by decide)]
theorem saneX_out : saneX.out = [⟨[97], 2⟩, ⟨[98], 2⟩, ⟨[99], 1⟩] := by
  unfold Spill.out
  rw [saneX_fin]
theorem blk_v (s : Spill) : s.blk = .rows 5 [[.int .i64 s.mem, .sl (countRows s.buf) false, .sl (runRows s.runs) false, .int .i64 s.peak, .int .i64 s.written]] none := rfl
set_option maxHeartbeats 4000000 in
theorem sane_spec : Spec Try.prog 8 [] [] (.bool true) [] := by
  have hg0 := Good.new (m := 2) (by omega)
  have hw0 : (Spill.new 2).Wr := rfl
  have hfin : Spec Try.prog 14 [saneX.v] [] (.tup [.sl (countRows [⟨[97], 2⟩, ⟨[98], 2⟩, ⟨[99], 1⟩]) false, Spill.v ⟨2, [], [[⟨[97], 2⟩, ⟨[98], 2⟩, ⟨[99], 1⟩]], 2, 7⟩, .int .i64 0]) [] := by
    have hg := hg0.pushL saneT
    have hb := wr_bounds hg (wr_pushL hw0 saneT)
    have h1 := Finish_ok hg (by have : saneT.length = 5 := rfl; omega) (by decide)
    rw [saneX_eq, saneX_fin, saneX_out] at h1
    exact h1
  refine Spec.body env Try.func8 rfl (by kernel_rfl) (Nat.le_of_ble_eq_true (by kernel_rfl)) (keysSub rfl) fun Γ hN hK => ?_; have hML : maxLen = 9223372036854775807 := by unfold maxLen; rfl
  repeat (first | refine W.seq ?_ | (refine W.reg env hN (by kernel_rfl) ?_; conv => whnf) | refine W.condT rfl ?_ | refine W.condF rfl ?_ | (refine W.skip ?_; conv => whnf) | (refine W.exit ?_; conv => whnf) | refine W.block ?_ | (refine fun (hlen : (_ : Nat) ≤ _) => ?_; conv => whnf) | (refine okFp_intro (by kernel_rfl) ?_; conv => whnf) | (refine And.intro rfl ?_; conv => whnf) | (refine And.intro (by omega) ?_; conv => whnf) | (refine rowAt_of rfl ?_; conv => whnf) | (refine boolRes_true (by omega) ?_; conv => whnf) | (refine boolRes_false (by omega) ?_; conv => whnf) | (refine boolRes_true rfl ?_; conv => whnf))
  (refine ⟨_, _, _, callG [] [] [] rfl rfl rfl (by kernel_rfl) (new_spec 2 (by decide)) (by repeat' (first | exact trivial | exact Lent.refl _ | exact Lent.norm _ | apply And.intro)) rfl ⟨rfl, rfl, rfl, rfl, rfl, by repeat' (first | exact trivial | rfl | apply And.intro), rfl, rfl⟩, ?_⟩; conv => whnf)
  repeat (first | refine W.seq ?_ | (refine W.reg env hN (by kernel_rfl) ?_; conv => whnf) | (refine W.skip ?_; conv => whnf) | (refine W.exit ?_; conv => whnf) | refine W.block ?_ | (refine fun (hlen : (_ : Nat) ≤ _) => ?_; conv => whnf) | (refine okFp_intro (by kernel_rfl) ?_; conv => whnf) | (refine And.intro rfl ?_; conv => whnf) | (refine And.intro (by omega) ?_; conv => whnf) | (refine rowAt_of rfl ?_; conv => whnf) | (refine boolRes_true (by omega) ?_; conv => whnf) | (refine boolRes_false (by omega) ?_; conv => whnf) | (refine boolRes_true rfl ?_; conv => whnf))
  refine W.loopG (fun n st => ∃ j : Nat, j ≤ 5 ∧ n = 5 - j ∧ st = ⟨[(1, .bp 1 0), (2, .int .i64 0), (12, .osl 12 0 0 5 5), (13, .int .i64 5), (14, .int .i64 j)], [(1, [(pushL (Spill.new 2) (saneT.take j)).blk]), (12, [.rows 1 (strRows saneT) none])], [1, 12]⟩)
    5 _ ⟨0, by omega, rfl, rfl⟩ ⟨[(1, 1), (12, 12)], [], [], LeG.mk' rfl rfl rfl (by repeat' (first | exact trivial | exact ⟨_, .refl _, rfl⟩ | apply And.intro)) (.cons 1 rfl rfl (.refl _) rfl (.cons 12 rfl rfl (.refl _) rfl .nil)) rfl rfl (by rw [hK]; rfl)⟩ ?_
  rintro n st ⟨j, hj, rfl, rfl⟩
  repeat (first | refine W.seq ?_ | (refine W.reg env hN (by kernel_rfl) ?_; conv => whnf) | refine W.condT rfl ?_ | refine W.condF rfl ?_ | (refine W.skip ?_; conv => whnf) | (refine W.exit ?_; conv => whnf) | refine W.block ?_ | (refine fun (hlen : (_ : Nat) ≤ _) => ?_; conv => whnf) | (refine okFp_intro (by kernel_rfl) ?_; conv => whnf) | (refine And.intro rfl ?_; conv => whnf) | (refine And.intro (by omega) ?_; conv => whnf) | (refine rowAt_of rfl ?_; conv => whnf) | (refine boolRes_true (by omega) ?_; conv => whnf) | (refine boolRes_false (by omega) ?_; conv => whnf) | (refine boolRes_true rfl ?_; conv => whnf))
  refine boolRes_split (fun hb => ?_) (fun hb => ?_) <;> conv => whnf
  · have hlt : j < 5 := by omega
    have hg := hg0.pushL (saneT.take j)
    have hb := wr_bounds hg (wr_pushL hw0 (saneT.take j))
    have htl : (saneT.take j).length ≤ 5 := by simp; omega
    have hlt5 : j < saneT.length := hlt
    have hx : (strRows saneT)[0 + ((j : Nat) : Int).toNat]? = some [.str saneT[j]] := by simp [strRows, hlt5]
    have hnext : pushL (Spill.new 2) (saneT.take (j + 1)) = (pushL (Spill.new 2) (saneT.take j)).push saneT[j] := by
      rw [List.take_add_one, List.getElem?_eq_getElem hlt5, Option.toList_some, pushL_snoc]
    have sp := Push_ok hg ⟨hb.1, by omega⟩ (by omega) saneT[j]
    rw [← hnext] at sp
    repeat (first | refine W.seq ?_ | (refine W.reg env hN (by kernel_rfl) ?_; conv => whnf) | refine W.condT rfl ?_ | refine W.condF rfl ?_ | (refine W.skip ?_; conv => whnf) | (refine W.exit ?_; conv => whnf) | refine W.block ?_ | (refine fun (hlen : (_ : Nat) ≤ _) => ?_; conv => whnf) | (refine okFp_intro (by kernel_rfl) ?_; conv => whnf) | (refine And.intro rfl ?_; conv => whnf) | (refine And.intro (by omega) ?_; conv => whnf) | (refine rowAt_of rfl ?_; conv => whnf) | (refine boolRes_true (by omega) ?_; conv => whnf) | (refine boolRes_false (by omega) ?_; conv => whnf) | (refine boolRes_true rfl ?_; conv => whnf))
    refine rowAt_of hx ?_
    conv => whnf
    repeat (first | refine W.seq ?_ | (refine W.reg env hN (by kernel_rfl) ?_; conv => whnf) | refine W.condT rfl ?_ | refine W.condF rfl ?_ | (refine W.skip ?_; conv => whnf) | (refine W.exit ?_; conv => whnf) | refine W.block ?_ | (refine fun (hlen : (_ : Nat) ≤ _) => ?_; conv => whnf) | (refine okFp_intro (by kernel_rfl) ?_; conv => whnf) | (refine And.intro rfl ?_; conv => whnf) | (refine And.intro (by omega) ?_; conv => whnf) | (refine rowAt_of rfl ?_; conv => whnf) | (refine boolRes_true (by omega) ?_; conv => whnf) | (refine boolRes_false (by omega) ?_; conv => whnf) | (refine boolRes_true rfl ?_; conv => whnf))
    (refine ⟨_, _, _, callG [] [] [] rfl rfl rfl (by kernel_rfl) (sp) (by repeat' (first | exact trivial | exact Lent.refl _ | exact Lent.norm _ | apply And.intro)) rfl ⟨rfl, rfl, rfl, rfl, rfl, by repeat' (first | exact trivial | rfl | apply And.intro), rfl, rfl⟩, ?_⟩; conv => whnf)
    repeat (first | refine W.seq ?_ | (refine W.reg env hN (by kernel_rfl) ?_; conv => whnf) | refine W.condT rfl ?_ | refine W.condF rfl ?_ | (refine W.skip ?_; conv => whnf) | (refine W.exit ?_; conv => whnf) | refine W.block ?_ | (refine fun (hlen : (_ : Nat) ≤ _) => ?_; conv => whnf) | (refine okFp_intro (by kernel_rfl) ?_; conv => whnf) | (refine And.intro rfl ?_; conv => whnf) | (refine And.intro (by omega) ?_; conv => whnf) | (refine rowAt_of rfl ?_; conv => whnf) | (refine boolRes_true (by omega) ?_; conv => whnf) | (refine boolRes_false (by omega) ?_; conv => whnf) | (refine boolRes_true rfl ?_; conv => whnf))
    refine ⟨_, _, ?_, ⟨j + 1, by omega, rfl, rfl⟩, ⟨[(1, 1), (12, 12)], [], [], LeG.mk' rfl rfl rfl (by repeat' (first | exact trivial | exact ⟨_, .refl _, rfl⟩ | apply And.intro)) (.cons 1 rfl rfl (.refl _) rfl (.cons 12 rfl rfl (.refl _) rfl .nil)) rfl rfl (by rw [hK]; rfl)⟩⟩
    omega
  · have hje : j = 5 := by omega
    subst hje
    have h5 : saneT.take 5 = saneT := rfl
    rw [h5, saneX_eq]
    have f1 : (runRows saneX.runs).length = 1 := rfl
    have f2 : (countRows [⟨[97], 2⟩, ⟨[98], 2⟩, ⟨[99], 1⟩]).length = 3 := rfl
    repeat (first | refine W.seq ?_ | (refine W.reg env hN (by kernel_rfl) ?_; conv => whnf) | refine W.condT rfl ?_ | refine W.condF rfl ?_ | (refine W.skip ?_; conv => whnf) | (refine W.exit ?_; conv => whnf) | refine W.block ?_ | (refine fun (hlen : (_ : Nat) ≤ _) => ?_; conv => whnf) | (refine okFp_intro (by kernel_rfl) ?_; conv => whnf) | (refine And.intro rfl ?_; conv => whnf) | (refine And.intro (by omega) ?_; conv => whnf) | (refine rowAt_of rfl ?_; conv => whnf) | (refine boolRes_true (by omega) ?_; conv => whnf) | (refine boolRes_false (by omega) ?_; conv => whnf) | (refine boolRes_true rfl ?_; conv => whnf))
    (refine ⟨_, _, _, callG [] [] [] rfl rfl rfl (by kernel_rfl) (hfin) (by repeat' (first | exact trivial | exact Lent.refl _ | exact Lent.norm _ | apply And.intro)) rfl ⟨rfl, rfl, rfl, rfl, rfl, by repeat' (first | exact trivial | rfl | apply And.intro), rfl, rfl⟩, ?_⟩; conv => whnf)
    repeat (first | refine W.seq ?_ | (refine W.reg env hN (by kernel_rfl) ?_; conv => whnf) | refine W.condT rfl ?_ | refine W.condF rfl ?_ | (refine W.skip ?_; conv => whnf) | (refine W.exit ?_; conv => whnf) | refine W.block ?_ | (refine fun (hlen : (_ : Nat) ≤ _) => ?_; conv => whnf) | (refine okFp_intro (by kernel_rfl) ?_; conv => whnf) | (refine And.intro rfl ?_; conv => whnf) | (refine And.intro (by omega) ?_; conv => whnf) | (refine rowAt_of rfl ?_; conv => whnf) | (refine boolRes_true (by omega) ?_; conv => whnf) | (refine boolRes_false (by omega) ?_; conv => whnf) | (refine boolRes_true rfl ?_; conv => whnf))
    (refine W.ret ?_; conv => whnf)
    exact ret0 rfl rfl rfl
end Go.Sx.Sp
namespace Go.Sx.Sp
open Go Go.Sx Go.Proofs
attribute [local irreducible] GoodW
theorem memory_facts {n m : Int} (hn : 2 ≤ n) (hnm : n ≤ m) (hm : m ≤ 65536) (l : List (List UInt8)) :
    (pushL (Spill.new m) l).runs.length ≤ (pushL (Spill.new n) l).runs.length ∧
    (((setOf l).length : Int) ≤ m → (pushL (Spill.new m) l).runs = [] ∧ (pushL (Spill.new m) l).buf.length = (setOf l).length ∧ (pushL (Spill.new m) l).fin.written = (setOf l).length) ∧
    ((setOf l).length : Int) ≤ (pushL (Spill.new n) l).fin.written := by
  have hgx := Good.new (m := n) (by omega)
  have hgy := Good.new (m := m) (by omega)
  refine ⟨?_, fun h => ?_, ?_⟩
  · rcases ahead_pushL hgx hgy hnm (.inr ⟨rfl, by simp [Spill.texts, Spill.new]⟩) l with h | h
    · omega
    · omega
  · obtain ⟨h1, h2⟩ := enough (by omega) l h
    have h3 : (pushL (Spill.new m) l).buf.length = (setOf l).length := by rw [← texts_len, h2]
    refine ⟨h1, h3, ?_⟩
    rw [fin_written_eq (wr_pushL (show (Spill.new _).Wr from rfl) l) h1, h3]
  · have h1 := covered (m := n) (by omega) l
    have h2 := fin_written_ge (s := pushL (Spill.new n) l) (wr_pushL (show (Spill.new _).Wr from rfl) l)
    omega
set_option maxHeartbeats 8000000 in
theorem memory_spec (s : List Int) (a b : Int) (hs : Bytes s) (ha : 0 ≤ a ∧ a ≤ 255) (hb : 0 ≤ b ∧ b ≤ 255) : Spec Try.prog 3 [.sl (intRows .u8 s) false, .int .u8 a, .int .u8 b] [] (.bool true) [] := by
  have hs3 : Bytes (s.take 300) := fun x hx => hs x (List.mem_of_mem_take hx)
  have htx := texts_spec (s.take 300) 0 30 hs3 (by omega) (by omega)
  have htl : (texts (s.take 300) 0 30).1.length ≤ 30 := by
    have hr := pickV_range hs3 0 (n := ((30 + 1 : Nat) : Int)) (by omega)
    unfold texts
    rw [textsN_len]
    omega
  generalize (texts (s.take 300) 0 30).2 = p1 at *
  generalize (texts (s.take 300) 0 30).1 = l at *
  have hA : a.tmod 8 = a % 8 := Int.tmod_eq_emod_of_nonneg ha.1
  have hB : b.tmod 40 = b % 40 := Int.tmod_eq_emod_of_nonneg hb.1
  obtain ⟨n, hn⟩ : ∃ n : Int, n = 2 + a % 8 := ⟨_, rfl⟩
  obtain ⟨m, hm⟩ : ∃ m : Int, m = n + b % 40 := ⟨_, rfl⟩
  obtain ⟨f1, f2, f3⟩ := memory_facts (n := n) (m := m) (by omega) (by omega) (by omega) l
  have hfn : fits n = true := by simp [fits]; omega
  have hfm : fits m = true := by simp [fits]; omega
  have hgx := Good.new (m := n) (by omega)
  have hgy := Good.new (m := m) (by omega)
  have hset := set_spec l (by omega)
  have hsl := strRows_len (setOf l)
  have hll := strRows_len l
  refine Spec.body env Try.func3 rfl (by kernel_rfl) (Nat.le_of_ble_eq_true (by kernel_rfl)) (keysSub rfl) fun Γ hN hK => ?_; have hML : maxLen = 9223372036854775807 := by unfold maxLen; rfl
  repeat (first | refine W.seq ?_ | (refine W.reg env hN (by kernel_rfl) ?_; conv => whnf) | refine W.condT rfl ?_ | refine W.condF rfl ?_ | (refine W.skip ?_; conv => whnf) | (refine W.exit ?_; conv => whnf) | refine W.block ?_ | (refine fun (hlen : (_ : Nat) ≤ _) => ?_; conv => whnf) | (refine okFp_intro (by kernel_rfl) ?_; conv => whnf) | (refine And.intro rfl ?_; conv => whnf) | (refine And.intro (by omega) ?_; conv => whnf) | (refine rowAt_of rfl ?_; conv => whnf) | (refine boolRes_true (by omega) ?_; conv => whnf) | (refine boolRes_false (by omega) ?_; conv => whnf) | (refine boolRes_true rfl ?_; conv => whnf))
  (refine ⟨_, _, _, callG [] [] [] rfl rfl rfl (by kernel_rfl) (sane_spec) (by repeat' (first | exact trivial | exact Lent.refl _ | exact Lent.norm _ | apply And.intro)) rfl ⟨rfl, rfl, rfl, rfl, rfl, by repeat' (first | exact trivial | rfl | apply And.intro), rfl, rfl⟩, ?_⟩; conv => whnf)
  repeat (first | refine W.seq ?_ | (refine W.reg env hN (by kernel_rfl) ?_; conv => whnf) | refine W.condT rfl ?_ | refine W.condF rfl ?_ | (refine W.skip ?_; conv => whnf) | (refine W.exit ?_; conv => whnf) | refine W.block ?_ | (refine fun (hlen : (_ : Nat) ≤ _) => ?_; conv => whnf) | (refine okFp_intro (by kernel_rfl) ?_; conv => whnf) | (refine And.intro rfl ?_; conv => whnf) | (refine And.intro (by omega) ?_; conv => whnf) | (refine rowAt_of rfl ?_; conv => whnf) | (refine boolRes_true (by omega) ?_; conv => whnf) | (refine boolRes_false (by omega) ?_; conv => whnf) | (refine boolRes_true rfl ?_; conv => whnf))
  (refine ⟨_, _, _, callG [] [(10, 25)] [] rfl rfl rfl (by kernel_rfl) (dice_spec s) (by repeat' (first | exact trivial | exact Lent.refl _ | exact Lent.norm _ | apply And.intro)) rfl ⟨rfl, rfl, rfl, rfl, rfl, by repeat' (first | exact trivial | rfl | apply And.intro), rfl, rfl⟩, ?_⟩; conv => whnf)
  repeat (first | refine W.seq ?_ | (refine W.reg env hN (by kernel_rfl) ?_; conv => whnf) | refine W.condT rfl ?_ | refine W.condF rfl ?_ | (refine W.skip ?_; conv => whnf) | (refine W.exit ?_; conv => whnf) | refine W.block ?_ | (refine fun (hlen : (_ : Nat) ≤ _) => ?_; conv => whnf) | (refine okFp_intro (by kernel_rfl) ?_; conv => whnf) | (refine And.intro rfl ?_; conv => whnf) | (refine And.intro (by omega) ?_; conv => whnf) | (refine rowAt_of rfl ?_; conv => whnf) | (refine boolRes_true (by omega) ?_; conv => whnf) | (refine boolRes_false (by omega) ?_; conv => whnf) | (refine boolRes_true rfl ?_; conv => whnf))
  (refine ⟨_, _, _, callG [(0, 25)] [] [] rfl rfl rfl (by kernel_rfl) (htx) (by repeat' (first | exact trivial | exact Lent.refl _ | exact Lent.norm _ | apply And.intro)) rfl ⟨rfl, rfl, rfl, rfl, rfl, by repeat' (first | exact trivial | rfl | apply And.intro), rfl, rfl⟩, ?_⟩; conv => whnf)
  repeat (first | refine W.seq ?_ | (refine W.reg env hN (by kernel_rfl) ?_; conv => whnf) | refine W.condT rfl ?_ | refine W.condF rfl ?_ | (refine W.skip ?_; conv => whnf) | (refine W.exit ?_; conv => whnf) | refine W.block ?_ | (refine fun (hlen : (_ : Nat) ≤ _) => ?_; conv => whnf) | (refine okFp_intro (by kernel_rfl) ?_; conv => whnf) | (refine And.intro rfl ?_; conv => whnf) | (refine And.intro (by omega) ?_; conv => whnf) | (refine rowAt_of rfl ?_; conv => whnf) | (refine boolRes_true (by omega) ?_; conv => whnf) | (refine boolRes_false (by omega) ?_; conv => whnf) | (refine boolRes_true rfl ?_; conv => whnf))
  rw [show 2 + a.tmod 8 = n by omega]
  rw [show n + b.tmod 40 = m by omega]
  (refine ⟨_, _, _, callG [] [] [] rfl rfl rfl (by kernel_rfl) (hset) (by repeat' (first | exact trivial | exact Lent.refl _ | exact Lent.norm _ | apply And.intro)) rfl ⟨rfl, rfl, rfl, rfl, rfl, by repeat' (first | exact trivial | rfl | apply And.intro), rfl, rfl⟩, ?_⟩; conv => whnf)
  repeat (first | refine W.seq ?_ | (refine W.reg env hN (by kernel_rfl) ?_; conv => whnf) | refine W.condT rfl ?_ | refine W.condF rfl ?_ | (refine W.skip ?_; conv => whnf) | (refine W.exit ?_; conv => whnf) | refine W.block ?_ | (refine fun (hlen : (_ : Nat) ≤ _) => ?_; conv => whnf) | (refine okFp_intro (by kernel_rfl) ?_; conv => whnf) | (refine And.intro rfl ?_; conv => whnf) | (refine And.intro (by omega) ?_; conv => whnf) | (refine rowAt_of rfl ?_; conv => whnf) | (refine boolRes_true (by omega) ?_; conv => whnf) | (refine boolRes_false (by omega) ?_; conv => whnf) | (refine boolRes_true rfl ?_; conv => whnf))
  (refine ⟨_, _, _, callG [] [] [] rfl rfl rfl (by kernel_rfl) (new_spec n hfn) (by repeat' (first | exact trivial | exact Lent.refl _ | exact Lent.norm _ | apply And.intro)) rfl ⟨rfl, rfl, rfl, rfl, rfl, by repeat' (first | exact trivial | rfl | apply And.intro), rfl, rfl⟩, ?_⟩; conv => whnf)
  repeat (first | refine W.seq ?_ | (refine W.reg env hN (by kernel_rfl) ?_; conv => whnf) | refine W.condT rfl ?_ | refine W.condF rfl ?_ | (refine W.skip ?_; conv => whnf) | (refine W.exit ?_; conv => whnf) | refine W.block ?_ | (refine fun (hlen : (_ : Nat) ≤ _) => ?_; conv => whnf) | (refine okFp_intro (by kernel_rfl) ?_; conv => whnf) | (refine And.intro rfl ?_; conv => whnf) | (refine And.intro (by omega) ?_; conv => whnf) | (refine rowAt_of rfl ?_; conv => whnf) | (refine boolRes_true (by omega) ?_; conv => whnf) | (refine boolRes_false (by omega) ?_; conv => whnf) | (refine boolRes_true rfl ?_; conv => whnf))
  (refine ⟨_, _, _, callG [] [] [] rfl rfl rfl (by kernel_rfl) (new_spec m hfm) (by repeat' (first | exact trivial | exact Lent.refl _ | exact Lent.norm _ | apply And.intro)) rfl ⟨rfl, rfl, rfl, rfl, rfl, by repeat' (first | exact trivial | rfl | apply And.intro), rfl, rfl⟩, ?_⟩; conv => whnf)
  repeat (first | refine W.seq ?_ | (refine W.reg env hN (by kernel_rfl) ?_; conv => whnf) | refine W.condT rfl ?_ | refine W.condF rfl ?_ | (refine W.skip ?_; conv => whnf) | (refine W.exit ?_; conv => whnf) | refine W.block ?_ | (refine fun (hlen : (_ : Nat) ≤ _) => ?_; conv => whnf) | (refine okFp_intro (by kernel_rfl) ?_; conv => whnf) | (refine And.intro rfl ?_; conv => whnf) | (refine And.intro (by omega) ?_; conv => whnf) | (refine rowAt_of rfl ?_; conv => whnf) | (refine boolRes_true (by omega) ?_; conv => whnf) | (refine boolRes_false (by omega) ?_; conv => whnf) | (refine boolRes_true rfl ?_; conv => whnf))
  refine W.loopG (fun k st => ∃ j : Nat, j ≤ l.length ∧ k = l.length - j ∧ st = ⟨[(8, .sl (strRows l) false), (9, .int .i64 n), (10, .int .i64 m), (11, .int .i64 (setOf l).length), (12, .bp 12 0), (13, .int .i64 0), (14, .bp 14 0), (15, .int .i64 0), (56, .sl (strRows l) false), (57, .int .i64 l.length), (58, .int .i64 j)], [(12, [(pushL (Spill.new n) (l.take j)).blk]), (14, [(pushL (Spill.new m) (l.take j)).blk])], [12, 14]⟩)
    l.length _ ⟨0, by omega, rfl, rfl⟩ ⟨[(12, 12), (14, 14)], [], [], LeG.mk' rfl rfl rfl (by rw [← hsl, ← hll]; repeat' (first | exact trivial | exact ⟨_, .refl _, rfl⟩ | apply And.intro)) (.cons 12 rfl rfl (.refl _) rfl (.cons 14 rfl rfl (.refl _) rfl .nil)) rfl rfl (by rw [hK]; rfl)⟩ ?_
  rintro k st ⟨j, hj, rfl, rfl⟩
  repeat (first | refine W.seq ?_ | (refine W.reg env hN (by kernel_rfl) ?_; conv => whnf) | refine W.condT rfl ?_ | refine W.condF rfl ?_ | (refine W.skip ?_; conv => whnf) | (refine W.exit ?_; conv => whnf) | refine W.block ?_ | (refine fun (hlen : (_ : Nat) ≤ _) => ?_; conv => whnf) | (refine okFp_intro (by kernel_rfl) ?_; conv => whnf) | (refine And.intro rfl ?_; conv => whnf) | (refine And.intro (by omega) ?_; conv => whnf) | (refine rowAt_of rfl ?_; conv => whnf) | (refine boolRes_true (by omega) ?_; conv => whnf) | (refine boolRes_false (by omega) ?_; conv => whnf) | (refine boolRes_true rfl ?_; conv => whnf))
  refine boolRes_split (fun hb => ?_) (fun hb => ?_) <;> conv => whnf
  · have hlt : j < l.length := by omega
    have hx : (strRows l)[j]? = some [.str l[j]] := by simp [strRows, hlt]
    have htk : (l.take j).length ≤ 30 := by simp; omega
    have hgx1 := hgx.pushL (l.take j)
    have hgy1 := hgy.pushL (l.take j)
    have hbx := wr_bounds hgx1 (wr_pushL (show (Spill.new n).Wr from rfl) (l.take j))
    have hby := wr_bounds hgy1 (wr_pushL (show (Spill.new m).Wr from rfl) (l.take j))
    have hnext : ∀ q, pushL (Spill.new q) (l.take (j + 1)) = (pushL (Spill.new q) (l.take j)).push l[j] := fun q => by
      rw [List.take_add_one, List.getElem?_eq_getElem hlt, Option.toList_some, pushL_snoc]
    have spx := Push_ok hgx1 ⟨hbx.1, by omega⟩ (by omega) l[j]
    have spy := Push_ok hgy1 ⟨hby.1, by omega⟩ (by omega) l[j]
    rw [← hnext] at spx spy
    repeat (first | refine W.seq ?_ | (refine W.reg env hN (by kernel_rfl) ?_; conv => whnf) | refine W.condT rfl ?_ | refine W.condF rfl ?_ | (refine W.skip ?_; conv => whnf) | (refine W.exit ?_; conv => whnf) | refine W.block ?_ | (refine fun (hlen : (_ : Nat) ≤ _) => ?_; conv => whnf) | (refine okFp_intro (by kernel_rfl) ?_; conv => whnf) | (refine And.intro rfl ?_; conv => whnf) | (refine And.intro (by omega) ?_; conv => whnf) | (refine rowAt_of rfl ?_; conv => whnf) | (refine boolRes_true (by omega) ?_; conv => whnf) | (refine boolRes_false (by omega) ?_; conv => whnf) | (refine boolRes_true rfl ?_; conv => whnf))
    refine rowAt_of hx ?_
    conv => whnf
    repeat (first | refine W.seq ?_ | (refine W.reg env hN (by kernel_rfl) ?_; conv => whnf) | refine W.condT rfl ?_ | refine W.condF rfl ?_ | (refine W.skip ?_; conv => whnf) | (refine W.exit ?_; conv => whnf) | refine W.block ?_ | (refine fun (hlen : (_ : Nat) ≤ _) => ?_; conv => whnf) | (refine okFp_intro (by kernel_rfl) ?_; conv => whnf) | (refine And.intro rfl ?_; conv => whnf) | (refine And.intro (by omega) ?_; conv => whnf) | (refine rowAt_of rfl ?_; conv => whnf) | (refine boolRes_true (by omega) ?_; conv => whnf) | (refine boolRes_false (by omega) ?_; conv => whnf) | (refine boolRes_true rfl ?_; conv => whnf))
    (refine ⟨_, _, _, callG [] [] [] rfl rfl rfl (by kernel_rfl) (spx) (by repeat' (first | exact trivial | exact Lent.refl _ | exact Lent.norm _ | apply And.intro)) rfl ⟨rfl, rfl, rfl, rfl, rfl, by repeat' (first | exact trivial | rfl | apply And.intro), rfl, rfl⟩, ?_⟩; conv => whnf)
    repeat (first | refine W.seq ?_ | (refine W.reg env hN (by kernel_rfl) ?_; conv => whnf) | refine W.condT rfl ?_ | refine W.condF rfl ?_ | (refine W.skip ?_; conv => whnf) | (refine W.exit ?_; conv => whnf) | refine W.block ?_ | (refine fun (hlen : (_ : Nat) ≤ _) => ?_; conv => whnf) | (refine okFp_intro (by kernel_rfl) ?_; conv => whnf) | (refine And.intro rfl ?_; conv => whnf) | (refine And.intro (by omega) ?_; conv => whnf) | (refine rowAt_of rfl ?_; conv => whnf) | (refine boolRes_true (by omega) ?_; conv => whnf) | (refine boolRes_false (by omega) ?_; conv => whnf) | (refine boolRes_true rfl ?_; conv => whnf))
    (refine ⟨_, _, _, callG [] [] [] rfl rfl rfl (by kernel_rfl) (spy) (by repeat' (first | exact trivial | exact Lent.refl _ | exact Lent.norm _ | apply And.intro)) rfl ⟨rfl, rfl, rfl, rfl, rfl, by repeat' (first | exact trivial | rfl | apply And.intro), rfl, rfl⟩, ?_⟩; conv => whnf)
    repeat (first | refine W.seq ?_ | (refine W.reg env hN (by kernel_rfl) ?_; conv => whnf) | refine W.condT rfl ?_ | refine W.condF rfl ?_ | (refine W.skip ?_; conv => whnf) | (refine W.exit ?_; conv => whnf) | refine W.block ?_ | (refine fun (hlen : (_ : Nat) ≤ _) => ?_; conv => whnf) | (refine okFp_intro (by kernel_rfl) ?_; conv => whnf) | (refine And.intro rfl ?_; conv => whnf) | (refine And.intro (by omega) ?_; conv => whnf) | (refine rowAt_of rfl ?_; conv => whnf) | (refine boolRes_true (by omega) ?_; conv => whnf) | (refine boolRes_false (by omega) ?_; conv => whnf) | (refine boolRes_true rfl ?_; conv => whnf))
    refine ⟨_, _, ?_, ⟨j + 1, by omega, rfl, rfl⟩, ⟨[(12, 12), (14, 14)], [], [], LeG.mk' rfl rfl rfl (by repeat' (first | exact trivial | exact ⟨_, .refl _, rfl⟩ | apply And.intro)) (.cons 12 rfl rfl (.refl _) rfl (.cons 14 rfl rfl (.refl _) rfl .nil)) rfl rfl (by rw [hK]; rfl)⟩⟩
    omega
  · have hje : j = l.length := by omega
    subst hje
    rw [List.take_length]
    have hgx1 := hgx.pushL l
    have hgy1 := hgy.pushL l
    have hbx := wr_bounds hgx1 (wr_pushL (show (Spill.new n).Wr from rfl) l)
    have hby := wr_bounds hgy1 (wr_pushL (show (Spill.new m).Wr from rfl) l)
    have spx := Finish_ok hgx1 ⟨hbx.1, by omega⟩ (by omega)
    have spy := Finish_ok hgy1 ⟨hby.1, by omega⟩ (by omega)
    have hrx := runRows_len (pushL (Spill.new n) l).runs
    have hry := runRows_len (pushL (Spill.new m) l).runs
    have hcy := countRows_len (pushL (Spill.new m) l).buf
    generalize pushL (Spill.new n) l = x at *
    generalize pushL (Spill.new m) l = y at *
    generalize (setOf l).length = D at *
    by_cases hD : (D : Int) ≤ m
    · obtain ⟨g1, g2, g3⟩ := f2 hD
      have g1' : y.runs.length = 0 := by rw [g1]; rfl
      repeat (first | refine W.seq ?_ | (refine W.reg env hN (by kernel_rfl) ?_; conv => whnf) | refine W.condT rfl ?_ | refine W.condF rfl ?_ | (refine W.skip ?_; conv => whnf) | (refine W.exit ?_; conv => whnf) | refine W.block ?_ | (refine fun (hlen : (_ : Nat) ≤ _) => ?_; conv => whnf) | (refine okFp_intro (by kernel_rfl) ?_; conv => whnf) | (refine And.intro rfl ?_; conv => whnf) | (refine And.intro (by omega) ?_; conv => whnf) | (refine rowAt_of rfl ?_; conv => whnf) | (refine boolRes_true (by omega) ?_; conv => whnf) | (refine boolRes_false (by omega) ?_; conv => whnf) | (refine boolRes_true rfl ?_; conv => whnf))
      (refine ⟨_, _, _, callG [] [] [] rfl rfl rfl (by kernel_rfl) (spx) (by repeat' (first | exact trivial | exact Lent.refl _ | exact Lent.norm _ | apply And.intro)) rfl ⟨rfl, rfl, rfl, rfl, rfl, by repeat' (first | exact trivial | rfl | apply And.intro), rfl, rfl⟩, ?_⟩; conv => whnf)
      repeat (first | refine W.seq ?_ | (refine W.reg env hN (by kernel_rfl) ?_; conv => whnf) | refine W.condT rfl ?_ | refine W.condF rfl ?_ | (refine W.skip ?_; conv => whnf) | (refine W.exit ?_; conv => whnf) | refine W.block ?_ | (refine fun (hlen : (_ : Nat) ≤ _) => ?_; conv => whnf) | (refine okFp_intro (by kernel_rfl) ?_; conv => whnf) | (refine And.intro rfl ?_; conv => whnf) | (refine And.intro (by omega) ?_; conv => whnf) | (refine rowAt_of rfl ?_; conv => whnf) | (refine boolRes_true (by omega) ?_; conv => whnf) | (refine boolRes_false (by omega) ?_; conv => whnf) | (refine boolRes_true rfl ?_; conv => whnf))
      (refine ⟨_, _, _, callG [] [] [] rfl rfl rfl (by kernel_rfl) (spy) (by repeat' (first | exact trivial | exact Lent.refl _ | exact Lent.norm _ | apply And.intro)) rfl ⟨rfl, rfl, rfl, rfl, rfl, by repeat' (first | exact trivial | rfl | apply And.intro), rfl, rfl⟩, ?_⟩; conv => whnf)
      repeat (first | refine W.seq ?_ | (refine W.reg env hN (by kernel_rfl) ?_; conv => whnf) | refine W.condT rfl ?_ | refine W.condF rfl ?_ | (refine W.skip ?_; conv => whnf) | (refine W.exit ?_; conv => whnf) | refine W.block ?_ | (refine fun (hlen : (_ : Nat) ≤ _) => ?_; conv => whnf) | (refine okFp_intro (by kernel_rfl) ?_; conv => whnf) | (refine And.intro rfl ?_; conv => whnf) | (refine And.intro (by omega) ?_; conv => whnf) | (refine rowAt_of rfl ?_; conv => whnf) | (refine boolRes_true (by omega) ?_; conv => whnf) | (refine boolRes_false (by omega) ?_; conv => whnf) | (refine boolRes_true rfl ?_; conv => whnf) | (refine W.ret ?_; conv => whnf))
      exact ret0 rfl rfl rfl
    · repeat (first | refine W.seq ?_ | (refine W.reg env hN (by kernel_rfl) ?_; conv => whnf) | refine W.condT rfl ?_ | refine W.condF rfl ?_ | (refine W.skip ?_; conv => whnf) | (refine W.exit ?_; conv => whnf) | refine W.block ?_ | (refine fun (hlen : (_ : Nat) ≤ _) => ?_; conv => whnf) | (refine okFp_intro (by kernel_rfl) ?_; conv => whnf) | (refine And.intro rfl ?_; conv => whnf) | (refine And.intro (by omega) ?_; conv => whnf) | (refine rowAt_of rfl ?_; conv => whnf) | (refine boolRes_true (by omega) ?_; conv => whnf) | (refine boolRes_false (by omega) ?_; conv => whnf) | (refine boolRes_true rfl ?_; conv => whnf))
      (refine ⟨_, _, _, callG [] [] [] rfl rfl rfl (by kernel_rfl) (spx) (by repeat' (first | exact trivial | exact Lent.refl _ | exact Lent.norm _ | apply And.intro)) rfl ⟨rfl, rfl, rfl, rfl, rfl, by repeat' (first | exact trivial | rfl | apply And.intro), rfl, rfl⟩, ?_⟩; conv => whnf)
      repeat (first | refine W.seq ?_ | (refine W.reg env hN (by kernel_rfl) ?_; conv => whnf) | refine W.condT rfl ?_ | refine W.condF rfl ?_ | (refine W.skip ?_; conv => whnf) | (refine W.exit ?_; conv => whnf) | refine W.block ?_ | (refine fun (hlen : (_ : Nat) ≤ _) => ?_; conv => whnf) | (refine okFp_intro (by kernel_rfl) ?_; conv => whnf) | (refine And.intro rfl ?_; conv => whnf) | (refine And.intro (by omega) ?_; conv => whnf) | (refine rowAt_of rfl ?_; conv => whnf) | (refine boolRes_true (by omega) ?_; conv => whnf) | (refine boolRes_false (by omega) ?_; conv => whnf) | (refine boolRes_true rfl ?_; conv => whnf))
      (refine ⟨_, _, _, callG [] [] [] rfl rfl rfl (by kernel_rfl) (spy) (by repeat' (first | exact trivial | exact Lent.refl _ | exact Lent.norm _ | apply And.intro)) rfl ⟨rfl, rfl, rfl, rfl, rfl, by repeat' (first | exact trivial | rfl | apply And.intro), rfl, rfl⟩, ?_⟩; conv => whnf)
      repeat (first | refine W.seq ?_ | (refine W.reg env hN (by kernel_rfl) ?_; conv => whnf) | refine W.condT rfl ?_ | refine W.condF rfl ?_ | (refine W.skip ?_; conv => whnf) | (refine W.exit ?_; conv => whnf) | refine W.block ?_ | (refine fun (hlen : (_ : Nat) ≤ _) => ?_; conv => whnf) | (refine okFp_intro (by kernel_rfl) ?_; conv => whnf) | (refine And.intro rfl ?_; conv => whnf) | (refine And.intro (by omega) ?_; conv => whnf) | (refine rowAt_of rfl ?_; conv => whnf) | (refine boolRes_true (by omega) ?_; conv => whnf) | (refine boolRes_false (by omega) ?_; conv => whnf) | (refine boolRes_true rfl ?_; conv => whnf) | (refine W.ret ?_; conv => whnf))
      exact ret0 rfl rfl rfl
end Go.Sx.Sp
