/- Differences on tables of pairs. -/
import Derived.Test.YtplmjmhanplimaaDoorDOne
import Derived.Test.YtplmjmhanplimaaDoorQFive
import Derived.Test.YtplmjmhanplimaaDoorSxFour
set_option linter.unusedVariables false
set_option linter.unusedSimpArgs false
namespace Go.Sx.Sp
open Go Go.Sx Go.Proofs
attribute [local irreducible] GoodW
set_option maxHeartbeats 2000000 in
theorem ownO_spec (t : Table) (ht : t.Few) : Spec Tryd.prog 54 [.agg t.row] [] (.agg [.int .i64 t.id, .str t.name, .osl 7 0 0 (colRows t.cols).length (colRows t.cols).length]) [(7, .rows 2 (colRows t.cols) (some []))] := by
  have hcl := colRows_len t.cols
  have hcs := ht.cols
  refine Spec.body env Tryd.func54 rfl (by kernel_rfl) (Nat.le_of_ble_eq_true (by kernel_rfl)) (keysSub rfl) fun Γ hN hK => ?_; have hML : maxLen = 9223372036854775807 := by unfold maxLen; rfl
  repeat (first | refine gA ?_ | refine gB ?_ | refine gC rfl ?_ | refine gD rfl ?_ | ((first | refine gE env hN (by kernel_rfl) ?_ | refine gF ?_ | refine gG ?_ | refine gH fun hlen => ?_ | refine gI (by kernel_rfl) ?_ | refine gN rfl ?_ | refine gN (by omega) ?_ | refine gJ rfl ?_ | refine gK (by omega) ?_ | refine gL (by omega) ?_ | refine gK rfl ?_ | refine gO ?_); conv => whnf))
  (refine ⟨_, _, _, callG [] [(5, 7)] [] rfl rfl rfl (by kernel_rfl) (cloneCols_own (colRows t.cols) (colRows_sz _) (by rw [hcl]; exact ht.cols)) (by repeat' (first | exact trivial | exact Lent.refl _ | exact Lent.norm _ | apply And.intro)) rfl ⟨rfl, rfl, rfl, rfl, rfl, by repeat' (first | exact trivial | rfl | apply And.intro), rfl, rfl⟩, ?_⟩; conv => whnf)
  repeat (first | refine gA ?_ | refine gB ?_ | refine gC rfl ?_ | refine gD rfl ?_ | ((first | refine gE env hN (by kernel_rfl) ?_ | refine gF ?_ | refine gG ?_ | refine gH fun hlen => ?_ | refine gI (by kernel_rfl) ?_ | refine gN rfl ?_ | refine gN (by omega) ?_ | refine gJ rfl ?_ | refine gK (by omega) ?_ | refine gL (by omega) ?_ | refine gK rfl ?_ | refine gO ?_); conv => whnf))
  refine W.loopG (fun n st => ∃ k, k ≤ t.cols.length ∧ n = t.cols.length - k ∧ st = ⟨[(1, .bp 1 0), (2, .bp 2 0), (10, .osl 7 0 0 (colRows t.cols).length (colRows t.cols).length), (11, .int .i64 (colRows t.cols).length), (12, .int .i64 k)], [(1, [.rows 3 [[.int .i64 t.id, .str t.name, .osl 7 0 0 (colRows t.cols).length (colRows t.cols).length]] none]), (2, [.rows 3 [[.int .i64 0, .str [], .nils]] none]), (7, [.rows 2 (colRows t.cols) (some [])])], [1, 2, 7]⟩)
    t.cols.length _ ⟨0, Nat.zero_le _, rfl, rfl⟩ ⟨[(1, 1), (2, 2), (7, 7)], [], [], LeG.mk' rfl rfl rfl (by repeat' (first | exact trivial | exact ⟨_, .refl _, rfl⟩ | apply And.intro)) (.cons 1 rfl rfl (.refl _) rfl (.cons 2 rfl rfl (.refl _) rfl (.cons 7 rfl rfl (.refl _) rfl .nil))) rfl rfl (by rw [hK]; rfl)⟩ ?_
  rintro n st ⟨k, hk, rfl, rfl⟩
  repeat (first | refine gA ?_ | refine gB ?_ | refine gC rfl ?_ | refine gD rfl ?_ | ((first | refine gE env hN (by kernel_rfl) ?_ | refine gF ?_ | refine gG ?_ | refine gH fun hlen => ?_ | refine gI (by kernel_rfl) ?_ | refine gN rfl ?_ | refine gN (by omega) ?_ | refine gJ rfl ?_ | refine gK (by omega) ?_ | refine gL (by omega) ?_ | refine gK rfl ?_ | refine gO ?_); conv => whnf))
  refine boolRes_split (fun hb => ?_) (fun hb => ?_) <;> conv => whnf
  · have hlt : k < t.cols.length := by omega
    have hx := colRows_get hlt
    have hcc := ht.cells _ (List.getElem_mem hlt)
    generalize t.cols[k] = c at *
    repeat (first | refine gA ?_ | refine gB ?_ | refine gC rfl ?_ | refine gD rfl ?_ | ((first | refine gE env hN (by kernel_rfl) ?_ | refine gF ?_ | refine gG ?_ | refine gH fun hlen => ?_ | refine gI (by kernel_rfl) ?_ | refine gN rfl ?_ | refine gN (by omega) ?_ | refine gJ rfl ?_ | refine gK (by omega) ?_ | refine gL (by omega) ?_ | refine gK rfl ?_ | refine gO ?_); conv => whnf))
    refine rowAt_of (by simpa using hx) ?_
    conv => whnf
    repeat (first | refine gA ?_ | refine gB ?_ | refine gC rfl ?_ | refine gD rfl ?_ | ((first | refine gE env hN (by kernel_rfl) ?_ | refine gF ?_ | refine gG ?_ | refine gH fun hlen => ?_ | refine gI (by kernel_rfl) ?_ | refine gN rfl ?_ | refine gN (by omega) ?_ | refine gJ rfl ?_ | refine gK (by omega) ?_ | refine gL (by omega) ?_ | refine gK rfl ?_ | refine gO ?_); conv => whnf))
    (refine ⟨_, _, _, callG [] [] [] rfl rfl rfl (by kernel_rfl) (cloneCells (cellRows c.cells) (cellRows_sz _) (by rw [cellRows_len]; exact hcc)) (by repeat' (first | exact trivial | exact Lent.refl _ | exact Lent.norm _ | apply And.intro)) rfl ⟨rfl, rfl, rfl, rfl, rfl, trivial, rfl, rfl⟩, ?_⟩; conv => whnf)
    repeat (first | refine gA ?_ | refine gB ?_ | refine gC rfl ?_ | refine gD rfl ?_ | ((first | refine gE env hN (by kernel_rfl) ?_ | refine gF ?_ | refine gG ?_ | refine gH fun hlen => ?_ | refine gI (by kernel_rfl) ?_ | refine gN rfl ?_ | refine gN (by omega) ?_ | refine gJ rfl ?_ | refine gK (by omega) ?_ | refine gL (by omega) ?_ | refine gK rfl ?_ | refine gO ?_); conv => whnf))
    refine rowAt_of (by simpa using hx) ?_
    conv => whnf
    repeat (first | refine gA ?_ | refine gB ?_ | refine gC rfl ?_ | refine gD rfl ?_ | ((first | refine gE env hN (by kernel_rfl) ?_ | refine gF ?_ | refine gG ?_ | refine gH fun hlen => ?_ | refine gI (by kernel_rfl) ?_ | refine gN rfl ?_ | refine gN (by omega) ?_ | refine gJ rfl ?_ | refine gK (by omega) ?_ | refine gL (by omega) ?_ | refine gK rfl ?_ | refine gO ?_); conv => whnf))
    have hset : (colRows t.cols).set (0 + (k : Int).toNat) [.str c.name, .sl (cellRows c.cells) false] = colRows t.cols := set_same (by simpa [Column.row] using hx)
    refine ⟨_, _, ?_, ⟨k + 1, by omega, rfl, rfl⟩, [(1, 1), (2, 2), (7, 7)], [], [], LeG.mk' rfl rfl rfl (by repeat' (first | exact trivial | exact ⟨_, .refl _, rfl⟩ | apply And.intro)) (.cons 1 rfl rfl (.refl _) rfl (.cons 2 rfl rfl (.refl _) rfl (.cons 7 rfl rfl (.refl _) (congrArg (fun r => [Blk.rows 2 r (some [])]) hset.symm) .nil))) rfl rfl (by rw [hK]; rfl)⟩
    omega
  · repeat (first | refine gA ?_ | refine gB ?_ | refine gC rfl ?_ | refine gD rfl ?_ | ((first | refine gE env hN (by kernel_rfl) ?_ | refine gF ?_ | refine gG ?_ | refine gH fun hlen => ?_ | refine gI (by kernel_rfl) ?_ | refine gN rfl ?_ | refine gN (by omega) ?_ | refine gJ rfl ?_ | refine gK (by omega) ?_ | refine gL (by omega) ?_ | refine gK rfl ?_ | refine gO ?_); conv => whnf))
    refine W.leG (mp := [(2, 2), (7, 7)]) (bo := []) (st' := ⟨[(2, .bp 2 0)], [(2, [.rows 3 [[.int .i64 t.id, .str t.name, .osl 7 0 0 (colRows t.cols).length (colRows t.cols).length]] none]), (7, [.rows 2 (colRows t.cols) (some [])])], [2, 7]⟩) (LeG.mk' rfl rfl rfl (by repeat' (first | exact trivial | exact ⟨_, .refl _, rfl⟩ | apply And.intro)) (.cons 2 rfl rfl (.refl _) rfl (.cons 7 rfl rfl (.refl _) rfl .nil)) rfl rfl (by rw [hK]; rfl)) ?_
    (refine gM ?_; conv => whnf)
    exact retH rfl (.refl _) rfl rfl rfl ⟨rfl, rfl, trivial⟩
structure KeyedB (es : List (Nat × V × V)) (L : List Str) : Prop where
  ks : es.map (fun p => p.2) = L.map fun s => (V.str s, V.bool true)
theorem keyedB_look {t : Str} : ∀ (L : List Str) (es : List (Nat × V × V)), es.map (fun p => p.2) = L.map (fun s => (V.str s, V.bool true)) → (t ∈ L → ∃ (j b : Nat), mapAt (.str t) es = some (some (j, b, .bool true)) ∧ L[j]? = some t) ∧ (t ∉ L → mapAt (.str t) es = some none) := by
  intro L
  induction L with
  | nil =>
    intro es h
    have : es = [] := by simpa using h
    subst this
    exact ⟨fun h => (by cases h), fun _ => rfl⟩
  | cons s L ih =>
    intro es h
    cases es with
    | nil => simp at h
    | cons p es =>
      obtain ⟨b, k, v⟩ := p
      simp only [List.map_cons, List.cons.injEq, Prod.mk.injEq] at h
      obtain ⟨⟨rfl, rfl⟩, ht⟩ := h
      obtain ⟨i1, i2⟩ := ih es ht
      by_cases e : t = s
      · subst e
        exact ⟨fun _ => ⟨0, b, by simp [mapAt, eqKey], rfl⟩, fun h => absurd List.mem_cons_self h⟩
      · have he : eqKey (.str t) (.str s) = some false := by simp [eqKey, e]
        refine ⟨fun h => ?_, fun h => ?_⟩
        · obtain ⟨j, b', q1, q2⟩ := i1 (by simpa [e] using h)
          exact ⟨j + 1, b', by simp [mapAt, he, q1], by simpa using q2⟩
        · have := i2 (by simp at h; exact h.2)
          simp [mapAt, he, this]
theorem KeyedB.yes {es : List (Nat × V × V)} {L : List Str} (h : KeyedB es L) {t : Str} (ht : t ∈ L) : ∃ (j b : Nat), mapAt (.str t) es = some (some (j, b, .bool true)) ∧ L[j]? = some t := (keyedB_look L es h.ks).1 ht
theorem KeyedB.no {es : List (Nat × V × V)} {L : List Str} (h : KeyedB es L) {t : Str} (ht : t ∉ L) : mapAt (.str t) es = some none := (keyedB_look L es h.ks).2 ht
theorem KeyedB.set {es : List (Nat × V × V)} {L : List Str} (h : KeyedB es L) {t : Str} {j : Nat} (hj : L[j]? = some t) (b : Nat) : KeyedB (es.set j (b, .str t, .bool true)) L := by
  refine ⟨?_⟩
  rw [List.map_set, h.ks]
  exact set_same (by simp [hj])
theorem KeyedB.snoc {es : List (Nat × V × V)} {L : List Str} (h : KeyedB es L) (t : Str) (c : Nat) : KeyedB (es ++ [(c, .str t, .bool true)]) (L ++ [t]) := ⟨by simp [h.ks]⟩
def keepB (t : Table) (k : Nat) (d : Delta) (i : Nat) : Bool := decide ((cellI (colK t k) i).text ∉ textsOf d.drop)
def keptA (t : Table) (k : Nat) (d : Delta) (c : Column) (n : Nat) : List Cell := ((List.range n).filter (keepB t k d)).map (cellI c.cells)
def newA (d : Delta) (j m : Nat) : List Cell := (d.add.take m).map fun r => cellI r j
def colA (t : Table) (k : Nat) (d : Delta) (j : Nat) (c : Column) : Column := ⟨c.name, keptA t k d c c.cells.length ++ d.add.map fun r => cellI r j⟩
def colsA (t : Table) (k : Nat) (d : Delta) (j : Nat) : List Column := (List.range j).map fun j => colA t k d j (t.cols.getD j ⟨[], []⟩)
def applyD (t : Table) (k : Nat) (d : Delta) : Table := ⟨t.id, t.name, colsA t k d t.cols.length⟩
def applyM (t : Table) (key : Int) (d : Delta) : Table × Int := if mayM t key d = 0 then (applyD t key.toNat d, 0) else (Table.zero, mayM t key d)
theorem keptA_snoc (t : Table) (k : Nat) (d : Delta) (c : Column) (n : Nat) : keptA t k d c (n + 1) = if keepB t k d n = true then keptA t k d c n ++ [cellI c.cells n] else keptA t k d c n := by
  unfold keptA
  rw [List.range_succ, List.filter_append]
  by_cases h : keepB t k d n = true <;> simp [h]
theorem keptA_len (t : Table) (k : Nat) (d : Delta) (c : Column) (n : Nat) : (keptA t k d c n).length ≤ n := by
  have := filt_len (cellI c.cells) (keepB t k d) (List.range n)
  simpa [keptA] using this
theorem newA_snoc {d : Delta} {m : Nat} (j : Nat) (h : m < d.add.length) : newA d j (m + 1) = newA d j m ++ [cellI d.add[m] j] := by
  unfold newA; rw [List.take_succ_eq_append_getElem h, List.map_append]; rfl
theorem colsA_len (t : Table) (k : Nat) (d : Delta) (j : Nat) : (colsA t k d j).length = j := by simp [colsA]
theorem mayM_ok {t : Table} {key : Int} {d : Delta} (h : mayM t key d = 0) : validB t = true ∧ goodD t.cols.length d = true ∧ checkM key [t] = 0 ∧ clashD (textsOf (colK t key.toNat)) key.toNat d = false ∧ (rowsN t : Int) - d.drop.length + d.add.length ≤ 4096 := by
  unfold mayM at h
  split at h
  · rename_i h1
    split at h
    · rename_i h2
      split at h
      · simp at h
      · rename_i h3
        split at h
        · simp at h
        · rename_i h4
          exact ⟨h1.1, h1.2, h2, by simpa using h3, by omega⟩
    · exact absurd h (by assumption)
  · simp at h
end Go.Sx.Sp
namespace Go.Sx.Sp
open Go Go.Sx Go.Proofs
attribute [local irreducible] GoodW
set_option maxHeartbeats 16000000 in
theorem apply_spec (t : Table) (key : Int) (d : Delta) (hdd : d.drop.length ≤ 4294967296) (hda : d.add.length ≤ 4294967296) : Spec Tryd.prog 16 [.agg t.row, .int .i64 key, .agg d.row] [] (.tup [.agg (applyM t key d).1.row, .int .i64 (applyM t key d).2]) [] := by
  have sp1 := may_spec t key d hda
  refine Spec.body env Tryd.func16 rfl (by kernel_rfl) (Nat.le_of_ble_eq_true (by kernel_rfl)) (keysSub rfl) fun Γ hN hK => ?_; have hML : maxLen = 9223372036854775807 := by unfold maxLen; rfl
  by_cases hmay : mayM t key d = 0
  · have hof : applyM t key d = (applyD t key.toNat d, 0) := by simp [applyM, hmay]
    rw [hof]
    rw [hmay] at sp1
    obtain ⟨hv, hg, hc, hcd, hcnt⟩ := mayM_ok hmay
    obtain ⟨k, rfl, hk, hkb⟩ := check_one hc
    simp only [Int.toNat_natCast] at *
    have hkk : colK t k = t.cols[k].cells := by simp [colK, hk]
    have lA : (colK t k).length = rowsN t := by rw [hkk]; exact valid_cells hv _ (List.getElem_mem hk)
    have few := validB_few hv
    have hrn := valid_rows hv
    have hdl := cellRows_len d.drop
    have hal := lineRows_len d.add
    have htl := colRows_len t.cols
    have hadd : ∀ r ∈ d.add, r.length = t.cols.length := fun r hr => by
      simp only [goodD, Bool.and_eq_true, List.all_eq_true] at hg
      have := (hg.1 r hr).1
      have := of_decide_eq_true this
      omega
    have spO := ownO_spec t few
    rw [htl] at spO
    repeat (first | refine gA ?_ | refine gB ?_ | refine gC rfl ?_ | refine gD rfl ?_ | ((first | refine gE env hN (by kernel_rfl) ?_ | refine gF ?_ | refine gG ?_ | refine gH fun hlen => ?_ | refine gI (by kernel_rfl) ?_ | refine gN rfl ?_ | refine gN (by omega) ?_ | refine gJ rfl ?_ | refine gK (by omega) ?_ | refine gL (by omega) ?_ | refine gK rfl ?_ | refine gO ?_); conv => whnf))
    (refine ⟨_, _, _, callG [] [] [] rfl rfl rfl (by kernel_rfl) (sp1) (by repeat' (first | exact trivial | exact Lent.refl _ | exact Lent.norm _ | apply And.intro)) rfl ⟨rfl, rfl, rfl, rfl, rfl, trivial, rfl, rfl⟩, ?_⟩; conv => whnf)
    repeat (first | refine gA ?_ | refine gB ?_ | refine gC rfl ?_ | refine gD rfl ?_ | ((first | refine gE env hN (by kernel_rfl) ?_ | refine gF ?_ | refine gG ?_ | refine gH fun hlen => ?_ | refine gI (by kernel_rfl) ?_ | refine gN rfl ?_ | refine gN (by omega) ?_ | refine gJ rfl ?_ | refine gK (by omega) ?_ | refine gL (by omega) ?_ | refine gK rfl ?_ | refine gO ?_); conv => whnf))
    refine W.loopG (fun m st => ∃ (j : Nat) (L : List Str) (es : List (Nat × V × V)) (c : Nat), j ≤ d.drop.length ∧ KeyedB es L ∧ (∀ s, s ∈ L ↔ s ∈ textsOf (d.drop.take j)) ∧ m = d.drop.length - j ∧
        st = ⟨[(1, .int .i64 k), (3, .bp 3 0), (5, .bp 5 0), (6, .bp 6 0), (9, .omap 27 0), (29, .sl (cellRows d.drop) false), (30, .int .i64 (cellRows d.drop).length), (31, .int .i64 j)], [(3, [.rows 3 [t.row] none]), (5, [.rows 2 [d.row] none]), (6, [.rows 3 [[.int .i64 0, .str [], .nils]] none]), (27, [.map es c (some [])])], [3, 5, 6, 27]⟩)
      d.drop.length _ ⟨0, [], [], 0, by omega, ⟨rfl⟩, by simp [textsOf], by omega, rfl⟩ ⟨[(3, 3), (5, 5), (6, 6), (27, 27)], [], [], LeG.mk' rfl rfl rfl (by repeat' (first | exact trivial | exact ⟨_, .refl _, rfl⟩ | apply And.intro)) (.cons 3 rfl rfl (.refl _) rfl (.cons 5 rfl rfl (.refl _) rfl (.cons 6 rfl rfl (.refl _) rfl (.cons 27 rfl rfl (.refl _) rfl .nil)))) rfl rfl (by rw [hK]; rfl)⟩ ?_
    rintro m st ⟨j, L, es, c, hj, hK0, hL, rfl, rfl⟩
    repeat (first | refine gA ?_ | refine gB ?_ | refine gC rfl ?_ | refine gD rfl ?_ | ((first | refine gE env hN (by kernel_rfl) ?_ | refine gF ?_ | refine gG ?_ | refine gH fun hlen => ?_ | refine gI (by kernel_rfl) ?_ | refine gN rfl ?_ | refine gN (by omega) ?_ | refine gJ rfl ?_ | refine gK (by omega) ?_ | refine gL (by omega) ?_ | refine gK rfl ?_ | refine gO ?_); conv => whnf))
    refine boolRes_split (fun hb => ?_) (fun hb => ?_) <;> conv => whnf
    · have hlt : j < d.drop.length := by omega
      have hgg := cellRows_get hlt
      have hts : textsOf (d.drop.take (j + 1)) = textsOf (d.drop.take j) ++ [d.drop[j].text] := by
        rw [List.take_succ_eq_append_getElem hlt]; unfold textsOf; rw [List.map_append]; rfl
      generalize d.drop[j] = x at *
      repeat (first | refine gA ?_ | refine gB ?_ | refine gC rfl ?_ | refine gD rfl ?_ | ((first | refine gE env hN (by kernel_rfl) ?_ | refine gF ?_ | refine gG ?_ | refine gH fun hlen => ?_ | refine gI (by kernel_rfl) ?_ | refine gN rfl ?_ | refine gN (by omega) ?_ | refine gJ rfl ?_ | refine gK (by omega) ?_ | refine gL (by omega) ?_ | refine gK rfl ?_ | refine gO ?_); conv => whnf))
      refine rowAt_of (by simpa using hgg) ?_
      conv => whnf
      repeat (first | refine gA ?_ | refine gB ?_ | refine gC rfl ?_ | refine gD rfl ?_ | ((first | refine gE env hN (by kernel_rfl) ?_ | refine gF ?_ | refine gG ?_ | refine gH fun hlen => ?_ | refine gI (by kernel_rfl) ?_ | refine gN rfl ?_ | refine gN (by omega) ?_ | refine gJ rfl ?_ | refine gK (by omega) ?_ | refine gL (by omega) ?_ | refine gK rfl ?_ | refine gO ?_); conv => whnf))
      by_cases hm : x.text ∈ L
      · obtain ⟨i, b, q1, q2⟩ := hK0.yes hm
        refine ⟨_, q1, ?_⟩
        conv => whnf
        repeat (first | refine gA ?_ | refine gB ?_ | refine gC rfl ?_ | refine gD rfl ?_ | ((first | refine gE env hN (by kernel_rfl) ?_ | refine gF ?_ | refine gG ?_ | refine gH fun hlen => ?_ | refine gI (by kernel_rfl) ?_ | refine gN rfl ?_ | refine gN (by omega) ?_ | refine gJ rfl ?_ | refine gK (by omega) ?_ | refine gL (by omega) ?_ | refine gK rfl ?_ | refine gO ?_); conv => whnf))
        refine ⟨_, _, ?_, ⟨j + 1, L, _, _, by omega, hK0.set q2 b, fun s => ?_, rfl, rfl⟩, ⟨[(3, 3), (5, 5), (6, 6), (27, 27)], [], [], LeG.mk' rfl rfl rfl (by repeat' (first | exact trivial | exact ⟨_, .refl _, rfl⟩ | apply And.intro)) (.cons 3 rfl rfl (.refl _) rfl (.cons 5 rfl rfl (.refl _) rfl (.cons 6 rfl rfl (.refl _) rfl (.cons 27 rfl rfl (.refl _) rfl .nil)))) rfl rfl (by rw [hK]; rfl)⟩⟩
        · omega
        · rw [hts, List.mem_append, ← hL]
          exact ⟨fun h => .inl h, fun h => by rcases h with h | h; exact h; simp at h; rw [h]; exact hm⟩
      · refine ⟨_, hK0.no hm, ?_⟩
        conv => whnf
        repeat (first | refine gA ?_ | refine gB ?_ | refine gC rfl ?_ | refine gD rfl ?_ | ((first | refine gE env hN (by kernel_rfl) ?_ | refine gF ?_ | refine gG ?_ | refine gH fun hlen => ?_ | refine gI (by kernel_rfl) ?_ | refine gN rfl ?_ | refine gN (by omega) ?_ | refine gJ rfl ?_ | refine gK (by omega) ?_ | refine gL (by omega) ?_ | refine gK rfl ?_ | refine gO ?_); conv => whnf))
        refine ⟨_, _, ?_, ⟨j + 1, L ++ [x.text], _, _, by omega, hK0.snoc _ _, fun s => ?_, rfl, rfl⟩, ⟨[(3, 3), (5, 5), (6, 6), (27, 27)], [], [], LeG.mk' rfl rfl rfl (by repeat' (first | exact trivial | exact ⟨_, .refl _, rfl⟩ | apply And.intro)) (.cons 3 rfl rfl (.refl _) rfl (.cons 5 rfl rfl (.refl _) rfl (.cons 6 rfl rfl (.refl _) rfl (.cons 27 rfl rfl (.refl _) rfl .nil)))) rfl rfl (by rw [hK]; rfl)⟩⟩
        · omega
        · rw [hts, List.mem_append, List.mem_append, ← hL]
    · have hje : j = d.drop.length := by omega
      rw [hje, List.take_length] at hL
      repeat (first | refine gA ?_ | refine gB ?_ | refine gC rfl ?_ | refine gD rfl ?_ | ((first | refine gE env hN (by kernel_rfl) ?_ | refine gF ?_ | refine gG ?_ | refine gH fun hlen => ?_ | refine gI (by kernel_rfl) ?_ | refine gN rfl ?_ | refine gN (by omega) ?_ | refine gJ rfl ?_ | refine gK (by omega) ?_ | refine gL (by omega) ?_ | refine gK rfl ?_ | refine gO ?_); conv => whnf))
      (refine ⟨_, _, _, callG [] [(7, 61)] [] rfl rfl rfl (by kernel_rfl) (spO) (by repeat' (first | exact trivial | exact Lent.refl _ | exact Lent.norm _ | apply And.intro)) rfl ⟨rfl, rfl, rfl, rfl, rfl, by repeat' (first | exact trivial | rfl | apply And.intro), rfl, rfl⟩, ?_⟩; conv => whnf)
      repeat (first | refine gA ?_ | refine gB ?_ | refine gC rfl ?_ | refine gD rfl ?_ | ((first | refine gE env hN (by kernel_rfl) ?_ | refine gF ?_ | refine gG ?_ | refine gH fun hlen => ?_ | refine gI (by kernel_rfl) ?_ | refine gN rfl ?_ | refine gN (by omega) ?_ | refine gJ rfl ?_ | refine gK (by omega) ?_ | refine gL (by omega) ?_ | refine gK rfl ?_ | refine gO ?_); conv => whnf))
      refine W.loopG (fun m st => ∃ j : Nat, j ≤ t.cols.length ∧ m = t.cols.length - j ∧ st = ⟨[(1, .int .i64 k), (3, .bp 3 0), (5, .bp 5 0), (6, .bp 6 0), (9, .omap 27 0), (12, .bp 12 0), (43, .int .i64 t.cols.length), (44, .int .i64 j)], [(3, [.rows 3 [t.row] none]), (5, [.rows 2 [d.row] none]), (6, [.rows 3 [[.int .i64 0, .str [], .nils]] none]), (27, [.map es c (some [])]), (12, [.rows 3 [[.int .i64 t.id, .str t.name, .osl 61 0 0 t.cols.length t.cols.length]] none]), (61, [.rows 2 (colRows (colsA t k d (j) ++ t.cols.drop (j))) (some [])])], [3, 5, 6, 27, 12, 61]⟩)
        t.cols.length _ ⟨0, by omega, by omega, rfl⟩ ⟨[(3, 3), (5, 5), (6, 6), (27, 27), (12, 12), (61, 61)], [], [], LeG.mk' rfl rfl rfl (by repeat' (first | exact trivial | exact ⟨_, .refl _, rfl⟩ | apply And.intro)) (.cons 3 rfl rfl (.refl _) rfl (.cons 5 rfl rfl (.refl _) rfl (.cons 6 rfl rfl (.refl _) rfl (.cons 27 rfl rfl (.refl _) rfl (.cons 12 rfl rfl (.refl _) rfl (.cons 61 rfl rfl (.refl _) rfl .nil)))))) rfl rfl (by rw [hK]; rfl)⟩ ?_
      rintro m st ⟨j, hj2, rfl, rfl⟩
      repeat (first | refine gA ?_ | refine gB ?_ | refine gC rfl ?_ | refine gD rfl ?_ | ((first | refine gE env hN (by kernel_rfl) ?_ | refine gF ?_ | refine gG ?_ | refine gH fun hlen => ?_ | refine gI (by kernel_rfl) ?_ | refine gN rfl ?_ | refine gN (by omega) ?_ | refine gJ rfl ?_ | refine gK (by omega) ?_ | refine gL (by omega) ?_ | refine gK rfl ?_ | refine gO ?_); conv => whnf))
      refine boolRes_split (fun hb => ?_) (fun hb => ?_) <;> conv => whnf
      · have hlt : j < t.cols.length := by omega
        have hx := colRows_get hlt
        have hxk := colRows_get hk
        have lC := valid_cells hv _ (List.getElem_mem hlt)
        have lK := valid_cells hv _ (List.getElem_mem hk)
        have hcg : t.cols.getD j ⟨[], []⟩ = t.cols[j] := by simp [hlt]
        have hdr := List.drop_eq_getElem_cons hlt
        generalize t.cols[j] = cj at *
        generalize t.cols[k] = ck at *
        have hcl := cellRows_len cj.cells
        repeat (first | refine gA ?_ | refine gB ?_ | refine gC rfl ?_ | refine gD rfl ?_ | ((first | refine gE env hN (by kernel_rfl) ?_ | refine gF ?_ | refine gG ?_ | refine gH fun hlen => ?_ | refine gI (by kernel_rfl) ?_ | refine gN rfl ?_ | refine gN (by omega) ?_ | refine gJ rfl ?_ | refine gK (by omega) ?_ | refine gL (by omega) ?_ | refine gK rfl ?_ | refine gO ?_); conv => whnf))
        refine rowAt_of (by simpa using hx) ?_
        conv => whnf
        repeat (first | refine gA ?_ | refine gB ?_ | refine gC rfl ?_ | refine gD rfl ?_ | ((first | refine gE env hN (by kernel_rfl) ?_ | refine gF ?_ | refine gG ?_ | refine gH fun hlen => ?_ | refine gI (by kernel_rfl) ?_ | refine gN rfl ?_ | refine gN (by omega) ?_ | refine gJ rfl ?_ | refine gK (by omega) ?_ | refine gL (by omega) ?_ | refine gK rfl ?_ | refine gO ?_); conv => whnf))
        refine W.ownNil 14 62 2 rfl rfl ?_
        refine W.loopG (fun m st => ∃ i : Nat, i ≤ cj.cells.length ∧ m = cj.cells.length - i ∧ st = ⟨[(1, .int .i64 k), (3, .bp 3 0), (5, .bp 5 0), (6, .bp 6 0), (9, .omap 27 0), (12, .bp 12 0), (43, .int .i64 t.cols.length), (44, .int .i64 j), (13, .int .i64 j), (14, .osl 62 0 0 (cellRows (keptA t k d cj i)).length (cellRows (keptA t k d cj i)).length), (52, .sl (cellRows cj.cells) false), (53, .int .i64 (cellRows cj.cells).length), (54, .int .i64 i)], [(3, [.rows 3 [t.row] none]), (5, [.rows 2 [d.row] none]), (6, [.rows 3 [[.int .i64 0, .str [], .nils]] none]), (27, [.map es c (some [])]), (12, [.rows 3 [[.int .i64 t.id, .str t.name, .osl 61 0 0 t.cols.length t.cols.length]] none]), (61, [.rows 2 (colRows (colsA t k d (j) ++ t.cols.drop (j))) (some [])]), (62, [.rows 2 (cellRows (keptA t k d cj i)) (some [])])], [3, 5, 6, 27, 12, 61, 62]⟩)
          cj.cells.length _ ⟨0, by omega, by omega, rfl⟩ ⟨[(3, 3), (5, 5), (6, 6), (27, 27), (12, 12), (61, 61), (62, 62)], [], [], LeG.mk' rfl rfl rfl (by repeat' (first | exact trivial | exact ⟨_, .refl _, rfl⟩ | apply And.intro)) (.cons 3 rfl rfl (.refl _) rfl (.cons 5 rfl rfl (.refl _) rfl (.cons 6 rfl rfl (.refl _) rfl (.cons 27 rfl rfl (.refl _) rfl (.cons 12 rfl rfl (.refl _) rfl (.cons 61 rfl rfl (.refl _) rfl (.cons 62 rfl rfl (.refl _) rfl .nil))))))) rfl rfl (by rw [hK]; rfl)⟩ ?_
        rintro m st ⟨i, hi, rfl, rfl⟩
        repeat (first | refine gA ?_ | refine gB ?_ | refine gC rfl ?_ | refine gD rfl ?_ | ((first | refine gE env hN (by kernel_rfl) ?_ | refine gF ?_ | refine gG ?_ | refine gH fun hlen => ?_ | refine gI (by kernel_rfl) ?_ | refine gN rfl ?_ | refine gN (by omega) ?_ | refine gJ rfl ?_ | refine gK (by omega) ?_ | refine gL (by omega) ?_ | refine gK rfl ?_ | refine gO ?_); conv => whnf))
        refine boolRes_split (fun hb => ?_) (fun hb => ?_) <;> conv => whnf
        · have hil : i < cj.cells.length := by omega
          have hik : i < (colK t k).length := by omega
          have hxi := cellRows_get hil
          have hxj : (cellRows ck.cells)[i]? = some (cellI (colK t k) i).row := by
            rw [hkk] at hik ⊢
            rw [cellRows_get hik]; simp [cellI, hik]
          have hci : cellI cj.cells i = cj.cells[i] := by simp [cellI, hil]
          have hsn := keptA_snoc t k d cj i
          have hkl := keptA_len t k d cj i
          have hkl2 := cellRows_len (keptA t k d cj i)
          rw [hci] at hsn
          generalize cj.cells[i] = x at *
          repeat (first | refine gA ?_ | refine gB ?_ | refine gC rfl ?_ | refine gD rfl ?_ | ((first | refine gE env hN (by kernel_rfl) ?_ | refine gF ?_ | refine gG ?_ | refine gH fun hlen => ?_ | refine gI (by kernel_rfl) ?_ | refine gN rfl ?_ | refine gN (by omega) ?_ | refine gJ rfl ?_ | refine gK (by omega) ?_ | refine gL (by omega) ?_ | refine gK rfl ?_ | refine gO ?_); conv => whnf))
          refine rowAt_of (by simpa using hxi) ?_
          conv => whnf
          repeat (first | refine gA ?_ | refine gB ?_ | refine gC rfl ?_ | refine gD rfl ?_ | ((first | refine gE env hN (by kernel_rfl) ?_ | refine gF ?_ | refine gG ?_ | refine gH fun hlen => ?_ | refine gI (by kernel_rfl) ?_ | refine gN rfl ?_ | refine gN (by omega) ?_ | refine gJ rfl ?_ | refine gK (by omega) ?_ | refine gL (by omega) ?_ | refine gK rfl ?_ | refine gO ?_); conv => whnf))
          refine rowAt_of (by simpa using hxk) ?_
          conv => whnf
          repeat (first | refine gA ?_ | refine gB ?_ | refine gC rfl ?_ | refine gD rfl ?_ | ((first | refine gE env hN (by kernel_rfl) ?_ | refine gF ?_ | refine gG ?_ | refine gH fun hlen => ?_ | refine gI (by kernel_rfl) ?_ | refine gN rfl ?_ | refine gN (by omega) ?_ | refine gJ rfl ?_ | refine gK (by omega) ?_ | refine gL (by omega) ?_ | refine gK rfl ?_ | refine gO ?_); conv => whnf))
          refine rowAt_of (by simpa using hxj) ?_
          conv => whnf
          repeat (first | refine gA ?_ | refine gB ?_ | refine gC rfl ?_ | refine gD rfl ?_ | ((first | refine gE env hN (by kernel_rfl) ?_ | refine gF ?_ | refine gG ?_ | refine gH fun hlen => ?_ | refine gI (by kernel_rfl) ?_ | refine gN rfl ?_ | refine gN (by omega) ?_ | refine gJ rfl ?_ | refine gK (by omega) ?_ | refine gL (by omega) ?_ | refine gK rfl ?_ | refine gO ?_); conv => whnf))
          refine zok_intro (by kernel_rfl) ?_
          conv => whnf
          by_cases hm : (cellI (colK t k) i).text ∈ L
          · obtain ⟨i2, b, q1, q2⟩ := hK0.yes hm
            have hkb2 : ¬ keepB t k d i = true := by unfold keepB; simp only [decide_eq_true_eq, Decidable.not_not]; exact (hL _).1 hm
            rw [if_neg hkb2] at hsn
            refine ⟨_, q1, ?_⟩
            conv => whnf
            repeat (first | refine gA ?_ | refine gB ?_ | refine gC rfl ?_ | refine gD rfl ?_ | ((first | refine gE env hN (by kernel_rfl) ?_ | refine gF ?_ | refine gG ?_ | refine gH fun hlen => ?_ | refine gI (by kernel_rfl) ?_ | refine gN rfl ?_ | refine gN (by omega) ?_ | refine gJ rfl ?_ | refine gK (by omega) ?_ | refine gL (by omega) ?_ | refine gK rfl ?_ | refine gO ?_); conv => whnf))
            refine ⟨_, _, ?_, ⟨i + 1, by omega, rfl, rfl⟩, [(3, 3), (5, 5), (6, 6), (27, 27), (12, 12), (61, 61), (62, 62)], [], [], LeG.mk' rfl rfl rfl (by repeat' (first | exact trivial | exact ⟨_, .refl _, rfl⟩ | (rw [hsn]; exact ⟨_, .refl _, rfl⟩) | apply And.intro)) (.cons 3 rfl rfl (.refl _) rfl (.cons 5 rfl rfl (.refl _) rfl (.cons 6 rfl rfl (.refl _) rfl (.cons 27 rfl rfl (.refl _) rfl (.cons 12 rfl rfl (.refl _) rfl (.cons 61 rfl rfl (.refl _) rfl (.cons 62 rfl rfl (.refl _) ?_ .nil))))))) rfl rfl (by rw [hK]; rfl)⟩
            · omega
            · rw [hsn]; rfl
          · have hkb2 : keepB t k d i = true := by unfold keepB; simp only [decide_eq_true_eq]; exact fun h => hm ((hL _).2 h)
            rw [if_pos hkb2] at hsn
            refine ⟨_, hK0.no hm, ?_⟩
            conv => whnf
            repeat (first | refine gA ?_ | refine gB ?_ | refine gC rfl ?_ | refine gD rfl ?_ | ((first | refine gE env hN (by kernel_rfl) ?_ | refine gF ?_ | refine gG ?_ | refine gH fun hlen => ?_ | refine gI (by kernel_rfl) ?_ | refine gN rfl ?_ | refine gN (by omega) ?_ | refine gJ rfl ?_ | refine gK (by omega) ?_ | refine gL (by omega) ?_ | refine gK rfl ?_ | refine gO ?_); conv => whnf))
            refine ⟨⟨rowsSz_cons rfl rowsSz_nil, rfl⟩, fitsN (n := (cellRows (keptA t k d cj i)).length + 1) (b := 24) (by omega) (by omega), .inl ⟨rfl, rfl, ?_⟩⟩
            conv => whnf
            repeat (first | refine gA ?_ | refine gB ?_ | refine gC rfl ?_ | refine gD rfl ?_ | ((first | refine gE env hN (by kernel_rfl) ?_ | refine gF ?_ | refine gG ?_ | refine gH fun hlen => ?_ | refine gI (by kernel_rfl) ?_ | refine gN rfl ?_ | refine gN (by omega) ?_ | refine gJ rfl ?_ | refine gK (by omega) ?_ | refine gL (by omega) ?_ | refine gK rfl ?_ | refine gO ?_); conv => whnf))
            refine ⟨_, _, ?_, ⟨i + 1, by omega, rfl, rfl⟩, [(3, 3), (5, 5), (6, 6), (27, 27), (12, 12), (61, 61), (62, 62)], [], [], LeG.mk' rfl rfl rfl (by repeat' (first | exact trivial | exact ⟨_, .refl _, rfl⟩ | (rw [hsn, cellRows_snoc, List.length_append]; exact ⟨_, .refl _, rfl⟩) | apply And.intro)) (.cons 3 rfl rfl (.refl _) rfl (.cons 5 rfl rfl (.refl _) rfl (.cons 6 rfl rfl (.refl _) rfl (.cons 27 rfl rfl (.refl _) rfl (.cons 12 rfl rfl (.refl _) rfl (.cons 61 rfl rfl (.refl _) rfl (.cons 62 rfl rfl (.refl _) ?_ .nil))))))) rfl rfl (by rw [hK]; rfl)⟩
            · omega
            · rw [hsn, cellRows_snoc]; rfl
        · have hie : i = cj.cells.length := by omega
          subst hie
          have h0 : keptA t k d cj cj.cells.length = keptA t k d cj cj.cells.length ++ newA d j 0 := by simp [newA]
          rw [h0]
          repeat (first | refine gA ?_ | refine gB ?_ | refine gC rfl ?_ | refine gD rfl ?_ | ((first | refine gE env hN (by kernel_rfl) ?_ | refine gF ?_ | refine gG ?_ | refine gH fun hlen => ?_ | refine gI (by kernel_rfl) ?_ | refine gN rfl ?_ | refine gN (by omega) ?_ | refine gJ rfl ?_ | refine gK (by omega) ?_ | refine gL (by omega) ?_ | refine gK rfl ?_ | refine gO ?_); conv => whnf))
          refine W.loopG (fun m st => ∃ i : Nat, i ≤ d.add.length ∧ m = d.add.length - i ∧ st = ⟨[(1, .int .i64 k), (3, .bp 3 0), (5, .bp 5 0), (6, .bp 6 0), (9, .omap 27 0), (12, .bp 12 0), (43, .int .i64 t.cols.length), (44, .int .i64 j), (13, .int .i64 j), (14, .osl 62 0 0 (cellRows (keptA t k d cj cj.cells.length ++ newA d j i)).length (cellRows (keptA t k d cj cj.cells.length ++ newA d j i)).length), (78, .sl (lineRows d.add) false), (79, .int .i64 (lineRows d.add).length), (80, .int .i64 i)], [(3, [.rows 3 [t.row] none]), (5, [.rows 2 [d.row] none]), (6, [.rows 3 [[.int .i64 0, .str [], .nils]] none]), (27, [.map es c (some [])]), (12, [.rows 3 [[.int .i64 t.id, .str t.name, .osl 61 0 0 t.cols.length t.cols.length]] none]), (61, [.rows 2 (colRows (colsA t k d (j) ++ t.cols.drop (j))) (some [])]), (62, [.rows 2 (cellRows (keptA t k d cj cj.cells.length ++ newA d j i)) (some [])])], [3, 5, 6, 27, 12, 61, 62]⟩)
            d.add.length _ ⟨0, by omega, by omega, rfl⟩ ⟨[(3, 3), (5, 5), (6, 6), (27, 27), (12, 12), (61, 61), (62, 62)], [], [], LeG.mk' rfl rfl rfl (by repeat' (first | exact trivial | exact ⟨_, .refl _, rfl⟩ | apply And.intro)) (.cons 3 rfl rfl (.refl _) rfl (.cons 5 rfl rfl (.refl _) rfl (.cons 6 rfl rfl (.refl _) rfl (.cons 27 rfl rfl (.refl _) rfl (.cons 12 rfl rfl (.refl _) rfl (.cons 61 rfl rfl (.refl _) rfl (.cons 62 rfl rfl (.refl _) rfl .nil))))))) rfl rfl (by rw [hK]; rfl)⟩ ?_
          rintro m st ⟨i, hi, rfl, rfl⟩
          repeat (first | refine gA ?_ | refine gB ?_ | refine gC rfl ?_ | refine gD rfl ?_ | ((first | refine gE env hN (by kernel_rfl) ?_ | refine gF ?_ | refine gG ?_ | refine gH fun hlen => ?_ | refine gI (by kernel_rfl) ?_ | refine gN rfl ?_ | refine gN (by omega) ?_ | refine gJ rfl ?_ | refine gK (by omega) ?_ | refine gL (by omega) ?_ | refine gK rfl ?_ | refine gO ?_); conv => whnf))
          refine boolRes_split (fun hb => ?_) (fun hb => ?_) <;> conv => whnf
          · have hil : i < d.add.length := by omega
            have hgx := lineRows_get hil
            have hrl := hadd _ (List.getElem_mem hil)
            have hns := newA_snoc j hil
            generalize d.add[i] = r at *
            have hjr : j < r.length := by omega
            have hrj : (cellRows r)[j]? = some (cellI r j).row := by rw [cellRows_get hjr]; simp [cellI, hjr]
            have hkl := keptA_len t k d cj cj.cells.length
            have hnl : (newA d j i).length ≤ i := by unfold newA; simp; omega
            have hxl := cellRows_len (keptA t k d cj cj.cells.length ++ newA d j i)
            rw [List.length_append] at hxl
            have hsn : keptA t k d cj cj.cells.length ++ newA d j (i + 1) = (keptA t k d cj cj.cells.length ++ newA d j i) ++ [cellI r j] := by rw [hns, List.append_assoc]
            generalize keptA t k d cj cj.cells.length ++ newA d j i = X at *
            repeat (first | refine gA ?_ | refine gB ?_ | refine gC rfl ?_ | refine gD rfl ?_ | ((first | refine gE env hN (by kernel_rfl) ?_ | refine gF ?_ | refine gG ?_ | refine gH fun hlen => ?_ | refine gI (by kernel_rfl) ?_ | refine gN rfl ?_ | refine gN (by omega) ?_ | refine gJ rfl ?_ | refine gK (by omega) ?_ | refine gL (by omega) ?_ | refine gK rfl ?_ | refine gO ?_); conv => whnf))
            refine rowAt_of (by simpa using hgx) ?_
            conv => whnf
            repeat (first | refine gA ?_ | refine gB ?_ | refine gC rfl ?_ | refine gD rfl ?_ | ((first | refine gE env hN (by kernel_rfl) ?_ | refine gF ?_ | refine gG ?_ | refine gH fun hlen => ?_ | refine gI (by kernel_rfl) ?_ | refine gN rfl ?_ | refine gN (by omega) ?_ | refine gJ rfl ?_ | refine gK (by omega) ?_ | refine gL (by omega) ?_ | refine gK rfl ?_ | refine gO ?_); conv => whnf))
            refine rowAt_of (by simpa using hrj) ?_
            conv => whnf
            repeat (first | refine gA ?_ | refine gB ?_ | refine gC rfl ?_ | refine gD rfl ?_ | ((first | refine gE env hN (by kernel_rfl) ?_ | refine gF ?_ | refine gG ?_ | refine gH fun hlen => ?_ | refine gI (by kernel_rfl) ?_ | refine gN rfl ?_ | refine gN (by omega) ?_ | refine gJ rfl ?_ | refine gK (by omega) ?_ | refine gL (by omega) ?_ | refine gK rfl ?_ | refine gO ?_); conv => whnf))
            refine ⟨⟨rowsSz_cons rfl rowsSz_nil, rfl⟩, fitsN (n := (cellRows X).length + 1) (b := 24) (by omega) (by omega), .inl ⟨rfl, rfl, ?_⟩⟩
            conv => whnf
            repeat (first | refine gA ?_ | refine gB ?_ | refine gC rfl ?_ | refine gD rfl ?_ | ((first | refine gE env hN (by kernel_rfl) ?_ | refine gF ?_ | refine gG ?_ | refine gH fun hlen => ?_ | refine gI (by kernel_rfl) ?_ | refine gN rfl ?_ | refine gN (by omega) ?_ | refine gJ rfl ?_ | refine gK (by omega) ?_ | refine gL (by omega) ?_ | refine gK rfl ?_ | refine gO ?_); conv => whnf))
            refine ⟨_, _, ?_, ⟨i + 1, by omega, rfl, rfl⟩, [(3, 3), (5, 5), (6, 6), (27, 27), (12, 12), (61, 61), (62, 62)], [], [], LeG.mk' rfl rfl rfl (by repeat' (first | exact trivial | exact ⟨_, .refl _, rfl⟩ | (rw [hsn, cellRows_snoc, List.length_append]; exact ⟨_, .refl _, rfl⟩) | apply And.intro)) (.cons 3 rfl rfl (.refl _) rfl (.cons 5 rfl rfl (.refl _) rfl (.cons 6 rfl rfl (.refl _) rfl (.cons 27 rfl rfl (.refl _) rfl (.cons 12 rfl rfl (.refl _) rfl (.cons 61 rfl rfl (.refl _) rfl (.cons 62 rfl rfl (.refl _) ?_ .nil))))))) rfl rfl (by rw [hK]; rfl)⟩
            · omega
            · rw [hsn, cellRows_snoc]; rfl
          · have hie : i = d.add.length := by omega
            subst hie
            have hX : keptA t k d cj cj.cells.length ++ newA d j d.add.length = (colA t k d j cj).cells := by simp [newA, colA]
            rw [hX]
            have hcs : colsA t k d (j + 1) = colsA t k d j ++ [colA t k d j cj] := by
              unfold colsA; rw [List.range_succ, List.map_append]; simp only [List.map_cons, List.map_nil]; rw [hcg]
            have hcl2 := colsA_len t k d j
            have hxm : (colRows (colsA t k d j ++ t.cols.drop j))[j]? = some cj.row := by
              rw [hdr]; unfold colRows; rw [List.map_append, List.getElem?_append_right (by simp [hcl2])]; simp [hcl2]
            have hlenC : t.cols.length = (colRows (colsA t k d j ++ t.cols.drop j)).length := by rw [colRows_len]; simp [hcl2]; omega
            have hset : (colRows (colsA t k d j ++ t.cols.drop j)).set (0 + (j : Int).toNat) [.str cj.name, .sl (cellRows (colA t k d j cj).cells) false] = colRows (colsA t k d (j + 1) ++ t.cols.drop (j + 1)) := by
              rw [hdr, hcs]; unfold colRows; simp only [List.map_append, List.map_cons, Nat.zero_add, Int.toNat_natCast]
              rw [List.set_append_right _ _ (by simp [hcl2])]
              simp [hcl2, Column.row, colA]
            refine W.leG (mp := [(3, 3), (5, 5), (6, 6), (27, 27), (12, 12), (61, 61)]) (bo := [62]) (st' := ⟨[(1, .int .i64 k), (3, .bp 3 0), (5, .bp 5 0), (6, .bp 6 0), (9, .omap 27 0), (12, .bp 12 0), (43, .int .i64 t.cols.length), (44, .int .i64 j), (13, .int .i64 j), (14, .sl (cellRows (colA t k d j cj).cells) false), (81, .bool false)], [(3, [.rows 3 [t.row] none]), (5, [.rows 2 [d.row] none]), (6, [.rows 3 [[.int .i64 0, .str [], .nils]] none]), (27, [.map es c (some [])]), (12, [.rows 3 [[.int .i64 t.id, .str t.name, .osl 61 0 0 t.cols.length t.cols.length]] none]), (61, [.rows 2 (colRows (colsA t k d (j) ++ t.cols.drop (j))) (some [])])], [3, 5, 6, 27, 12, 61]⟩)
              (LeG.mk' rfl rfl rfl (by repeat' (first | exact trivial | exact ⟨_, .refl _, rfl⟩ | exact ⟨_, Lent.whole rfl rfl rfl rfl (.inl rfl), rfl⟩ | apply And.intro)) (.cons 3 rfl rfl (.refl _) rfl (.cons 5 rfl rfl (.refl _) rfl (.cons 6 rfl rfl (.refl _) rfl (.cons 27 rfl rfl (.refl _) rfl (.cons 12 rfl rfl (.refl _) rfl (.cons 61 rfl rfl (.refl _) rfl .nil)))))) rfl rfl (by rw [hK]; rfl)) ?_
            repeat (first | refine gA ?_ | refine gB ?_ | refine gC rfl ?_ | refine gD rfl ?_ | ((first | refine gE env hN (by kernel_rfl) ?_ | refine gF ?_ | refine gG ?_ | refine gH fun hlen => ?_ | refine gI (by kernel_rfl) ?_ | refine gN rfl ?_ | refine gN (by omega) ?_ | refine gJ rfl ?_ | refine gK (by omega) ?_ | refine gL (by omega) ?_ | refine gK rfl ?_ | refine gO ?_); conv => whnf))
            refine rowAt_of (by simpa using hxm) ?_
            conv => whnf
            repeat (first | refine gA ?_ | refine gB ?_ | refine gC rfl ?_ | refine gD rfl ?_ | ((first | refine gE env hN (by kernel_rfl) ?_ | refine gF ?_ | refine gG ?_ | refine gH fun hlen => ?_ | refine gI (by kernel_rfl) ?_ | refine gN rfl ?_ | refine gN (by omega) ?_ | refine gJ rfl ?_ | refine gK (by omega) ?_ | refine gL (by omega) ?_ | refine gK rfl ?_ | refine gO ?_); conv => whnf))
            refine ⟨_, _, ?_, ⟨j + 1, by omega, rfl, rfl⟩, [(3, 3), (5, 5), (6, 6), (27, 27), (12, 12), (61, 61)], [], [], LeG.mk' rfl rfl rfl (by repeat' (first | exact trivial | exact ⟨_, .refl _, rfl⟩ | apply And.intro)) (.cons 3 rfl rfl (.refl _) rfl (.cons 5 rfl rfl (.refl _) rfl (.cons 6 rfl rfl (.refl _) rfl (.cons 27 rfl rfl (.refl _) rfl (.cons 12 rfl rfl (.refl _) rfl (.cons 61 rfl rfl (.refl _) (congrArg (fun r => [Blk.rows 2 r (some [])]) hset.symm) .nil)))))) rfl rfl (by rw [hK]; rfl)⟩
            omega
      · have hje : j = t.cols.length := by omega
        subst hje
        have hX : colsA t k d t.cols.length ++ t.cols.drop t.cols.length = colsA t k d t.cols.length := by simp
        have hXl : t.cols.length = (colRows (colsA t k d t.cols.length)).length := by rw [colRows_len, colsA_len]
        rw [hX]
        repeat (first | refine gA ?_ | refine gB ?_ | refine gC rfl ?_ | refine gD rfl ?_ | ((first | refine gE env hN (by kernel_rfl) ?_ | refine gF ?_ | refine gG ?_ | refine gH fun hlen => ?_ | refine gI (by kernel_rfl) ?_ | refine gN rfl ?_ | refine gN (by omega) ?_ | refine gJ rfl ?_ | refine gK (by omega) ?_ | refine gL (by omega) ?_ | refine gK rfl ?_ | refine gO ?_); conv => whnf))
        refine W.leG (mp := [(6, 6)]) (bo := [61]) (st' := ⟨[(6, .bp 6 0), (7, .int .i64 0)], [(6, [.rows 3 [(applyD t k d).row] none])], [6]⟩)
          (LeG.mk' rfl rfl rfl (by repeat' (first | exact trivial | exact ⟨_, .refl _, rfl⟩ | apply And.intro)) (.cons 6 (b1 := .rows 3 [(applyD t k d).row] none) rfl rfl (.rows _ _ _ ⟨⟨⟨.refl _, rfl⟩, ⟨.refl _, rfl⟩, ⟨Lent.whole rfl rfl hXl rfl (by first | exact .inl rfl | exact .inr rfl), rfl⟩, trivial⟩, trivial⟩) rfl .nil) rfl rfl (by rw [hK]; rfl)) ?_
        (refine gM ?_; conv => whnf)
        exact retH rfl (.refl _) rfl rfl rfl trivial
  · have hof : applyM t key d = (Table.zero, mayM t key d) := by simp [applyM, hmay]
    rw [hof]
    repeat (first | refine gA ?_ | refine gB ?_ | refine gC rfl ?_ | refine gD rfl ?_ | ((first | refine gE env hN (by kernel_rfl) ?_ | refine gF ?_ | refine gG ?_ | refine gH fun hlen => ?_ | refine gI (by kernel_rfl) ?_ | refine gN rfl ?_ | refine gN (by omega) ?_ | refine gJ rfl ?_ | refine gK (by omega) ?_ | refine gL (by omega) ?_ | refine gK rfl ?_ | refine gO ?_); conv => whnf))
    (refine ⟨_, _, _, callG [] [] [] rfl rfl rfl (by kernel_rfl) (sp1) (by repeat' (first | exact trivial | exact Lent.refl _ | exact Lent.norm _ | apply And.intro)) rfl ⟨rfl, rfl, rfl, rfl, rfl, trivial, rfl, rfl⟩, ?_⟩; conv => whnf)
    repeat (first | refine gA ?_ | refine gB ?_ | refine gC rfl ?_ | refine gD rfl ?_ | ((first | refine gE env hN (by kernel_rfl) ?_ | refine gF ?_ | refine gG ?_ | refine gH fun hlen => ?_ | refine gI (by kernel_rfl) ?_ | refine gN rfl ?_ | refine gN (by omega) ?_ | refine gJ rfl ?_ | refine gK (by omega) ?_ | refine gL (by omega) ?_ | refine gK rfl ?_ | refine gO ?_); conv => whnf))
    (refine gM ?_; conv => whnf)
    exact retH rfl (.norm _) rfl rfl rfl trivial
end Go.Sx.Sp
namespace Go.Sx.Sp
open Go Go.Sx Go.Proofs
attribute [local irreducible] GoodW
def keyWords : List Str := [[97], [98], [99], [100], [101], [102], [103]]
def valWords : List Str := [[49], [50]]
noncomputable def keyGo (l : List Int) : Nat → Nat → List Str → List Str → (List Str × List Str) × Nat
  | 0, p, ks, vs => ((ks, vs), p)
  | n + 1, p, ks, vs => if wordF keyWords l p ∈ ks then keyGo l n (nextP l p) ks vs else keyGo l n (nextP l (nextP l p)) (ks ++ [wordF keyWords l p]) (vs ++ [wordF valWords l (nextP l p)])
def cellOf (s : Str) : Cell := ⟨false, s⟩
def keyT (id : Int) (r : List Str × List Str) : Table := ⟨id, [], [⟨[118], r.2.map cellOf⟩, ⟨[107, 101, 121], r.1.map cellOf⟩]⟩
noncomputable def keyF (l : List Int) (id : Int) (p : Nat) : Table × Nat :=
  (keyT id (keyGo l (nextV l p 7).toNat (nextP l p) [] []).1, (keyGo l (nextV l p 7).toNat (nextP l p) [] []).2)
structure KeyOK (r : List Str × List Str) : Prop where
  nd : r.1.Nodup
  len : r.2.length = r.1.length
  kw : ∀ s ∈ r.1, s ∈ keyWords
  vw : ∀ s ∈ r.2, s ∈ valWords
theorem KeyOK.snoc {ks vs : List Str} (h : KeyOK (ks, vs)) {w v : Str} (hm : w ∉ ks) (w1 : w ∈ keyWords) (w2 : v ∈ valWords) : KeyOK (ks ++ [w], vs ++ [v]) :=
  ⟨List.nodup_append.2 ⟨h.nd, by simp, fun a ha b hb => by simp at hb; subst hb; exact fun e => hm (e ▸ ha)⟩, by have := h.len; simpa using this, fun s hs => by
    rcases List.mem_append.1 hs with h1 | h1
    · exact h.kw s h1
    · simp at h1; rw [h1]; exact w1, fun s hs => by
    rcases List.mem_append.1 hs with h1 | h1
    · exact h.vw s h1
    · simp at h1; rw [h1]; exact w2⟩
theorem cellsOf_snoc (l : List Str) (w : Str) : cellRows ((l ++ [w]).map cellOf) = cellRows (l.map cellOf) ++ [[.bool false, .str w]] := by simp [cellRows, cellOf, Cell.row]
theorem keyGo_ok {l : List Int} : ∀ (n p : Nat) (ks vs : List Str), p ≤ l.length → KeyOK (ks, vs) → KeyOK (keyGo l n p ks vs).1 ∧ (keyGo l n p ks vs).2 ≤ l.length ∧ (keyGo l n p ks vs).1.1.length ≤ ks.length + n
  | 0, p, ks, vs, hp, h => ⟨h, hp, by simp [keyGo]⟩
  | n + 1, p, ks, vs, hp, h => by
    have hp1 := nextP_le hp
    obtain ⟨w1, _⟩ := wordF_spec (ws := keyWords) (by decide) (by decide) hp
    obtain ⟨w2, _⟩ := wordF_spec (ws := valWords) (by decide) (by decide) hp1
    unfold keyGo
    split
    · obtain ⟨a1, a2, a3⟩ := keyGo_ok n _ ks vs hp1 h
      exact ⟨a1, a2, by omega⟩
    · rename_i hm
      obtain ⟨a1, a2, a3⟩ := keyGo_ok n _ (ks ++ [wordF keyWords l p]) (vs ++ [wordF valWords l (nextP l p)]) (nextP_le hp1) (h.snoc hm w1 w2)
      refine ⟨a1, a2, ?_⟩
      simp at a3; omega
set_option maxHeartbeats 16000000 in
theorem keyed_spec (l : List Int) (id : Int) (p : Nat) (hp : p ≤ l.length) : Spec Tryd.prog 14 [.bp 0 0, .int .i64 id] [(0, diceB l p)] (.agg (keyF l id p).1.row) [(0, diceB l (keyF l id p).2)] := by
  have hp1 := nextP_le hp
  have hr := nextV_range l p (n := 7) (by omega)
  have sp1 := next_spec l p 7 (by omega) hp
  have hK : keyF l id p = (keyT id (keyGo l (nextV l p 7).toNat (nextP l p) [] []).1, (keyGo l (nextV l p 7).toNat (nextP l p) [] []).2) := rfl
  rw [hK]
  clear hK
  obtain ⟨N, hN2⟩ : ∃ N : Nat, nextV l p 7 = N := ⟨_, (Int.toNat_of_nonneg hr.1).symm⟩
  rw [hN2] at sp1 hr ⊢
  rw [Int.toNat_natCast]
  refine Spec.body env Tryd.func14 rfl (by kernel_rfl) (Nat.le_of_ble_eq_true (by kernel_rfl)) (keysSub rfl) fun Γ hN hK => ?_; have hML : maxLen = 9223372036854775807 := by unfold maxLen; rfl
  repeat (first | refine gA ?_ | refine gB ?_ | refine gC rfl ?_ | refine gD rfl ?_ | ((first | refine gE env hN (by kernel_rfl) ?_ | refine gF ?_ | refine gG ?_ | refine gH fun hlen => ?_ | refine gI (by kernel_rfl) ?_ | refine gN rfl ?_ | refine gN (by omega) ?_ | refine gJ rfl ?_ | refine gK (by omega) ?_ | refine gL (by omega) ?_ | refine gK rfl ?_); conv => whnf))
  refine Or.inl ?_
  conv => whnf
  repeat (first | refine gA ?_ | refine gB ?_ | refine gC rfl ?_ | refine gD rfl ?_ | ((first | refine gE env hN (by kernel_rfl) ?_ | refine gF ?_ | refine gG ?_ | refine gH fun hlen => ?_ | refine gI (by kernel_rfl) ?_ | refine gN rfl ?_ | refine gN (by omega) ?_ | refine gJ rfl ?_ | refine gK (by omega) ?_ | refine gL (by omega) ?_ | refine gK rfl ?_ | refine gO ?_); conv => whnf))
  (refine ⟨_, _, _, callG [(0, 0)] [] [] rfl rfl rfl (by kernel_rfl) (sp1) (by repeat' (first | exact trivial | exact Lent.refl _ | exact Lent.norm _ | exact Lent.whole rfl rfl (by first | rfl | exact List.length_append.symm | exact hlenR | simp) rfl (by first | exact .inl rfl | exact .inr rfl) | apply And.intro)) rfl ⟨rfl, rfl, rfl, rfl, rfl, by repeat' (first | exact trivial | rfl | apply And.intro), rfl, rfl⟩, ?_⟩; conv => whnf)
  repeat (first | refine gA ?_ | refine gB ?_ | refine gC rfl ?_ | refine gD rfl ?_ | ((first | refine gE env hN (by kernel_rfl) ?_ | refine gF ?_ | refine gG ?_ | refine gH fun hlen => ?_ | refine gI (by kernel_rfl) ?_ | refine gN rfl ?_ | refine gN (by omega) ?_ | refine gJ rfl ?_ | refine gK (by omega) ?_ | refine gL (by omega) ?_ | refine gK rfl ?_ | refine gO ?_); conv => whnf))
  refine W.leG (mp := [(0, 0), (4, 4), (5, 5), (11, 11), (13, 13)]) (bo := []) (st' := ⟨[(0, .bp 0 0), (4, .bp 4 0), (5, .bp 5 0), (6, .omap 13 0), (15, .int .i64 N), (16, .int .i64 0)], [(0, [diceB l (nextP l p)]), (4, [.rows 3 [[.int .i64 0, .str [], .nils]] none]), (5, [.rows 3 [[.int .i64 id, .str [], .osl 11 0 0 2 2]] none]), (11, [.rows 2 [[.str [118], .nils], [.str [107, 101, 121], .nils]] none]), (13, [.map [] 0 (some [])])], [0, 4, 5, 11, 13]⟩)
    (LeG.mk' rfl rfl rfl (by repeat' (first | exact trivial | exact ⟨_, .refl _, rfl⟩ | apply And.intro)) (.cons 0 rfl rfl (.refl _) rfl (.cons 4 rfl rfl (.refl _) rfl (.cons 5 rfl rfl (.refl _) rfl (.cons 11 rfl rfl (.refl _) rfl (.cons 13 rfl rfl (.refl _) rfl .nil))))) rfl rfl (by rw [hK]; rfl)) ?_
  refine W.ownCell 11 0 1 71 2 rfl rfl rfl rfl rfl ?_
  refine W.ownCell 11 1 1 72 2 rfl rfl rfl rfl rfl ?_
  refine W.loopG (fun m st => ∃ (n i q : Nat) (ks vs : List Str) (es : List (Nat × V × V)) (c : Nat), q ≤ l.length ∧ KeyedB es ks ∧ KeyOK (ks, vs) ∧ keyGo l N (nextP l p) [] [] = keyGo l n q ks vs ∧ n + i = N ∧ ks.length ≤ i ∧ m = n ∧ st = ⟨[(0, .bp 0 0), (4, .bp 4 0), (5, .bp 5 0), (6, .omap 13 0), (15, .int .i64 N), (16, .int .i64 i)], [(0, [diceB l q]), (4, [.rows 3 [[.int .i64 0, .str [], .nils]] none]), (5, [.rows 3 [[.int .i64 id, .str [], .osl 11 0 0 2 2]] none]), (11, [.rows 2 [[.str [118], .osl 71 0 0 (cellRows (vs.map cellOf)).length (cellRows (vs.map cellOf)).length], [.str [107, 101, 121], .osl 72 0 0 (cellRows (ks.map cellOf)).length (cellRows (ks.map cellOf)).length]] none]), (13, [.map es c (some [])]), (71, [.rows 2 (cellRows (vs.map cellOf)) (some [])]), (72, [.rows 2 (cellRows (ks.map cellOf)) (some [])])], [0, 4, 5, 11, 13, 71, 72]⟩)
    N _ ⟨N, 0, nextP l p, [], [], [], 0, hp1, ⟨rfl⟩, ⟨List.nodup_nil, rfl, fun _ h => (by cases h), fun _ h => (by cases h)⟩, rfl, rfl, Nat.le_refl _, rfl, rfl⟩ ⟨[(0, 0), (4, 4), (5, 5), (11, 11), (13, 13), (71, 71), (72, 72)], [], [], LeG.mk' rfl rfl rfl (by repeat' (first | exact trivial | exact ⟨_, .refl _, rfl⟩ | apply And.intro)) (.cons 0 rfl rfl (.refl _) rfl (.cons 4 rfl rfl (.refl _) rfl (.cons 5 rfl rfl (.refl _) rfl (.cons 11 rfl rfl (.refl _) rfl (.cons 13 rfl rfl (.refl _) rfl (.cons 71 rfl rfl (.refl _) rfl (.cons 72 rfl rfl (.refl _) rfl .nil))))))) rfl rfl (by rw [hK]; rfl)⟩ ?_
  rintro m st ⟨n, i, q, ks, vs, es, c, hq, hes, hok, hgo, hni, hki, rfl, rfl⟩
  have hq1 := nextP_le hq
  have hkl := cellRows_len (ks.map cellOf)
  have hvl := cellRows_len (vs.map cellOf)
  have hlen : vs.length = ks.length := hok.len
  rw [List.length_map] at hkl hvl
  repeat (first | refine gA ?_ | refine gB ?_ | refine gC rfl ?_ | refine gD rfl ?_ | ((first | refine gE env hN (by kernel_rfl) ?_ | refine gF ?_ | refine gG ?_ | refine gH fun hlen => ?_ | refine gI (by kernel_rfl) ?_ | refine gN rfl ?_ | refine gN (by omega) ?_ | refine gJ rfl ?_ | refine gK (by omega) ?_ | refine gL (by omega) ?_ | refine gK rfl ?_ | refine gO ?_); conv => whnf))
  refine boolRes_split (fun hb => ?_) (fun hb => ?_) <;> conv => whnf
  · obtain ⟨n', rfl⟩ : ∃ n', m = n' + 1 := ⟨m - 1, by omega⟩
    obtain ⟨w1, sp2⟩ := wordF_spec (ws := keyWords) (by decide) (by decide) hq
    obtain ⟨w2, sp3⟩ := wordF_spec (ws := valWords) (by decide) (by decide) hq1
    rw [show keyGo l (n' + 1) q ks vs = if wordF keyWords l q ∈ ks then keyGo l n' (nextP l q) ks vs else keyGo l n' (nextP l (nextP l q)) (ks ++ [wordF keyWords l q]) (vs ++ [wordF valWords l (nextP l q)]) from rfl] at hgo
    repeat (first | refine gA ?_ | refine gB ?_ | refine gC rfl ?_ | refine gD rfl ?_ | ((first | refine gE env hN (by kernel_rfl) ?_ | refine gF ?_ | refine gG ?_ | refine gH fun hlen => ?_ | refine gI (by kernel_rfl) ?_ | refine gN rfl ?_ | refine gN (by omega) ?_ | refine gJ rfl ?_ | refine gK (by omega) ?_ | refine gL (by omega) ?_ | refine gK rfl ?_ | refine gO ?_); conv => whnf))
    (refine ⟨_, _, _, callG [(0, 0)] [] [] rfl rfl rfl (by kernel_rfl) (sp2) (by repeat' (first | exact trivial | exact Lent.refl _ | exact Lent.norm _ | exact Lent.whole rfl rfl (by first | rfl | exact List.length_append.symm | exact hlenR | simp) rfl (by first | exact .inl rfl | exact .inr rfl) | apply And.intro)) rfl ⟨rfl, rfl, rfl, rfl, rfl, by repeat' (first | exact trivial | rfl | apply And.intro), rfl, rfl⟩, ?_⟩; conv => whnf)
    repeat (first | refine gA ?_ | refine gB ?_ | refine gC rfl ?_ | refine gD rfl ?_ | ((first | refine gE env hN (by kernel_rfl) ?_ | refine gF ?_ | refine gG ?_ | refine gH fun hlen => ?_ | refine gI (by kernel_rfl) ?_ | refine gN rfl ?_ | refine gN (by omega) ?_ | refine gJ rfl ?_ | refine gK (by omega) ?_ | refine gL (by omega) ?_ | refine gK rfl ?_ | refine gO ?_); conv => whnf))
    refine zok_intro (by kernel_rfl) ?_
    conv => whnf
    by_cases hm : wordF keyWords l q ∈ ks
    · rw [if_pos hm] at hgo
      obtain ⟨j, b, q1, q2⟩ := hes.yes hm
      refine ⟨_, q1, ?_⟩
      conv => whnf
      repeat (first | refine gA ?_ | refine gB ?_ | refine gC rfl ?_ | refine gD rfl ?_ | ((first | refine gE env hN (by kernel_rfl) ?_ | refine gF ?_ | refine gG ?_ | refine gH fun hlen => ?_ | refine gI (by kernel_rfl) ?_ | refine gN rfl ?_ | refine gN (by omega) ?_ | refine gJ rfl ?_ | refine gK (by omega) ?_ | refine gL (by omega) ?_ | refine gK rfl ?_ | refine gO ?_); conv => whnf))
      refine ⟨_, _, ?_, ⟨n', i + 1, _, ks, vs, es, c, hq1, hes, hok, hgo, by omega, by omega, rfl, rfl⟩, ⟨[(0, 0), (4, 4), (5, 5), (11, 11), (13, 13), (71, 71), (72, 72)], [], [], LeG.mk' rfl rfl rfl (by repeat' (first | exact trivial | exact ⟨_, .refl _, rfl⟩ | apply And.intro)) (.cons 0 rfl rfl (.refl _) rfl (.cons 4 rfl rfl (.refl _) rfl (.cons 5 rfl rfl (.refl _) rfl (.cons 11 rfl rfl (.refl _) rfl (.cons 13 rfl rfl (.refl _) rfl (.cons 71 rfl rfl (.refl _) rfl (.cons 72 rfl rfl (.refl _) rfl .nil))))))) rfl rfl (by rw [hK]; rfl)⟩⟩
      omega
    · rw [if_neg hm] at hgo
      refine ⟨_, hes.no hm, ?_⟩
      conv => whnf
      repeat (first | refine gA ?_ | refine gB ?_ | refine gC rfl ?_ | refine gD rfl ?_ | ((first | refine gE env hN (by kernel_rfl) ?_ | refine gF ?_ | refine gG ?_ | refine gH fun hlen => ?_ | refine gI (by kernel_rfl) ?_ | refine gN rfl ?_ | refine gN (by omega) ?_ | refine gJ rfl ?_ | refine gK (by omega) ?_ | refine gL (by omega) ?_ | refine gK rfl ?_ | refine gO ?_); conv => whnf))
      refine ⟨_, hes.no hm, ?_⟩
      conv => whnf
      repeat (first | refine gA ?_ | refine gB ?_ | refine gC rfl ?_ | refine gD rfl ?_ | ((first | refine gE env hN (by kernel_rfl) ?_ | refine gF ?_ | refine gG ?_ | refine gH fun hlen => ?_ | refine gI (by kernel_rfl) ?_ | refine gN rfl ?_ | refine gN (by omega) ?_ | refine gJ rfl ?_ | refine gK (by omega) ?_ | refine gL (by omega) ?_ | refine gK rfl ?_ | refine gO ?_); conv => whnf))
      refine ⟨⟨rowsSz_cons rfl rowsSz_nil, rfl⟩, fitsN (n := (cellRows (ks.map cellOf)).length + 1) (b := 24) (by omega) (by omega), .inl ⟨rfl, rfl, ?_⟩⟩
      conv => whnf
      repeat (first | refine gA ?_ | refine gB ?_ | refine gC rfl ?_ | refine gD rfl ?_ | ((first | refine gE env hN (by kernel_rfl) ?_ | refine gF ?_ | refine gG ?_ | refine gH fun hlen => ?_ | refine gI (by kernel_rfl) ?_ | refine gN rfl ?_ | refine gN (by omega) ?_ | refine gJ rfl ?_ | refine gK (by omega) ?_ | refine gL (by omega) ?_ | refine gK rfl ?_ | refine gO ?_); conv => whnf))
      (refine ⟨_, _, _, callG [(0, 0)] [] [] rfl rfl rfl (by kernel_rfl) (sp3) (by repeat' (first | exact trivial | exact Lent.refl _ | exact Lent.norm _ | exact Lent.whole rfl rfl (by first | rfl | exact List.length_append.symm | exact hlenR | simp) rfl (by first | exact .inl rfl | exact .inr rfl) | apply And.intro)) rfl ⟨rfl, rfl, rfl, rfl, rfl, by repeat' (first | exact trivial | rfl | apply And.intro), rfl, rfl⟩, ?_⟩; conv => whnf)
      repeat (first | refine gA ?_ | refine gB ?_ | refine gC rfl ?_ | refine gD rfl ?_ | ((first | refine gE env hN (by kernel_rfl) ?_ | refine gF ?_ | refine gG ?_ | refine gH fun hlen => ?_ | refine gI (by kernel_rfl) ?_ | refine gN rfl ?_ | refine gN (by omega) ?_ | refine gJ rfl ?_ | refine gK (by omega) ?_ | refine gL (by omega) ?_ | refine gK rfl ?_ | refine gO ?_); conv => whnf))
      refine ⟨⟨rowsSz_cons rfl rowsSz_nil, rfl⟩, fitsN (n := (cellRows (vs.map cellOf)).length + 1) (b := 24) (by omega) (by omega), .inl ⟨rfl, rfl, ?_⟩⟩
      conv => whnf
      repeat (first | refine gA ?_ | refine gB ?_ | refine gC rfl ?_ | refine gD rfl ?_ | ((first | refine gE env hN (by kernel_rfl) ?_ | refine gF ?_ | refine gG ?_ | refine gH fun hlen => ?_ | refine gI (by kernel_rfl) ?_ | refine gN rfl ?_ | refine gN (by omega) ?_ | refine gJ rfl ?_ | refine gK (by omega) ?_ | refine gL (by omega) ?_ | refine gK rfl ?_ | refine gO ?_); conv => whnf))
      refine ⟨_, _, ?_, ⟨n', i + 1, _, _, _, _, _, nextP_le hq1, hes.snoc _ _, hok.snoc hm w1 w2, hgo, by omega, by simp; omega, rfl, rfl⟩, [(0, 0), (4, 4), (5, 5), (11, 11), (13, 13), (71, 71), (72, 72)], [], [], LeG.mk' rfl rfl rfl (by repeat' (first | exact trivial | exact ⟨_, .refl _, rfl⟩ | apply And.intro)) (.cons 0 rfl rfl (.refl _) rfl (.cons 4 rfl rfl (.refl _) rfl (.cons 5 rfl rfl (.refl _) rfl (.cons 11 rfl rfl (.refl _) ?_ (.cons 13 rfl rfl (.refl _) rfl (.cons 71 rfl rfl (.refl _) ?_ (.cons 72 rfl rfl (.refl _) ?_ .nil))))))) rfl rfl (by rw [hK]; rfl)⟩
      · omega
      · rw [cellsOf_snoc, cellsOf_snoc, List.length_append, List.length_append]; rfl
      · rw [cellsOf_snoc]; rfl
      · rw [cellsOf_snoc]; rfl
  · have hm0 : m = 0 := by omega
    subst hm0
    rw [show keyGo l 0 q ks vs = ((ks, vs), q) from rfl] at hgo
    rw [hgo]
    repeat (first | refine gA ?_ | refine gB ?_ | refine gC rfl ?_ | refine gD rfl ?_ | ((first | refine gE env hN (by kernel_rfl) ?_ | refine gF ?_ | refine gG ?_ | refine gH fun hlen => ?_ | refine gI (by kernel_rfl) ?_ | refine gN rfl ?_ | refine gN (by omega) ?_ | refine gJ rfl ?_ | refine gK (by omega) ?_ | refine gL (by omega) ?_ | refine gK rfl ?_ | refine gO ?_); conv => whnf))
    refine W.leG (mp := [(0, 0), (4, 4), (11, 11)]) (bo := [71, 72]) (st' := ⟨[(4, .bp 4 0)], [(0, [diceB l q]), (4, [.rows 3 [[.int .i64 id, .str [], .osl 11 0 0 2 2]] none]), (11, [.rows 2 [[.str [118], .sl (cellRows (vs.map cellOf)) false], [.str [107, 101, 121], .sl (cellRows (ks.map cellOf)) false]] none])], [0, 4, 11]⟩)
      (LeG.mk' rfl rfl rfl (by repeat' (first | exact trivial | exact ⟨_, .refl _, rfl⟩ | apply And.intro)) (.cons 0 rfl rfl (.refl _) rfl (.cons 4 rfl rfl (.refl _) rfl (.cons 11 (b1 := .rows 2 [[.str [118], .sl (cellRows (vs.map cellOf)) false], [.str [107, 101, 121], .sl (cellRows (ks.map cellOf)) false]] none) rfl rfl (.rows _ _ _ ⟨⟨⟨.refl _, rfl⟩, ⟨Lent.whole rfl rfl rfl rfl (.inl rfl), rfl⟩, trivial⟩, ⟨⟨.refl _, rfl⟩, ⟨Lent.whole rfl rfl rfl rfl (.inl rfl), rfl⟩, trivial⟩, trivial⟩) rfl .nil))) rfl rfl (by rw [hK]; rfl)) ?_
    refine W.leG (mp := [(0, 0), (4, 4)]) (bo := [11]) (st' := ⟨[(4, .bp 4 0)], [(0, [diceB l q]), (4, [.rows 3 [(keyT id (ks, vs)).row] none])], [0, 4]⟩)
      (LeG.mk' rfl rfl rfl (by repeat' (first | exact trivial | exact ⟨_, .refl _, rfl⟩ | apply And.intro)) (.cons 0 rfl rfl (.refl _) rfl (.cons 4 (b1 := .rows 3 [(keyT id (ks, vs)).row] none) rfl rfl (.rows _ _ _ ⟨⟨⟨.refl _, rfl⟩, ⟨.refl _, rfl⟩, ⟨Lent.whole rfl rfl rfl rfl (by first | exact .inl rfl | exact .inr rfl), rfl⟩, trivial⟩, trivial⟩) rfl .nil)) rfl rfl (by rw [hK]; rfl)) ?_
    (refine gM ?_; conv => whnf)
    exact retH rfl (.refl _) rfl rfl rfl ⟨rfl, rfl, trivial⟩
end Go.Sx.Sp
namespace Go.Sx.Sp
open Go Go.Sx Go.Proofs
attribute [local irreducible] GoodW
def keyAtB (t : Table) (i : Nat) : Bool := keyB (colK t i)
def keysTo (t : Table) (j : Nat) : List Int := ((List.range j).filter (keyAtB t)).map fun (i : Nat) => (i : Int)
def keysM (t : Table) : List Int := if validB t = true then keysTo t t.cols.length else []
theorem keysTo_snoc (t : Table) (j : Nat) : keysTo t (j + 1) = if keyAtB t j = true then keysTo t j ++ [(j : Int)] else keysTo t j := by
  unfold keysTo
  rw [List.range_succ, List.filter_append]
  by_cases h : keyAtB t j = true <;> simp [h]
theorem keysTo_len (t : Table) (j : Nat) : (keysTo t j).length ≤ j := by
  have := filt_len (fun (i : Nat) => (i : Int)) (keyAtB t) (List.range j)
  simpa [keysTo] using this
theorem intRows_snoc2 (a : List Int) (x : Int) : intRows .i64 (a ++ [x]) = intRows .i64 a ++ [[.int .i64 x]] := by simp [intRows]
theorem intRows_len2 (a : List Int) : (intRows .i64 a).length = a.length := by simp [intRows]
set_option maxHeartbeats 4000000 in
theorem keys_spec (t : Table) : Spec Tryd.prog 44 [.agg t.row] [] (.sl (intRows .i64 (keysM t)) false) [] := by
  have sp1 := valid_spec t
  have hcl := colRows_len t.cols
  refine Spec.body env Tryd.func44 rfl (by kernel_rfl) (Nat.le_of_ble_eq_true (by kernel_rfl)) (keysSub rfl) fun Γ hN hK => ?_; have hML : maxLen = 9223372036854775807 := by unfold maxLen; rfl
  repeat (first | refine gA ?_ | refine gB ?_ | refine gC rfl ?_ | refine gD rfl ?_ | ((first | refine gE env hN (by kernel_rfl) ?_ | refine gF ?_ | refine gG ?_ | refine gH fun hlen => ?_ | refine gI (by kernel_rfl) ?_ | refine gN rfl ?_ | refine gN (by omega) ?_ | refine gJ rfl ?_ | refine gK (by omega) ?_ | refine gL (by omega) ?_ | refine gK rfl ?_ | refine gO ?_); conv => whnf))
  cases hv : validB t with
  | false =>
    rw [hv] at sp1
    have hT : keysM t = [] := by simp [keysM, hv]
    rw [hT]
    (refine ⟨_, _, _, callG [] [] [] rfl rfl rfl (by kernel_rfl) (sp1) (by repeat' (first | exact trivial | exact Lent.refl _ | exact Lent.norm _ | apply And.intro)) rfl ⟨rfl, rfl, rfl, rfl, rfl, trivial, rfl, rfl⟩, ?_⟩; conv => whnf)
    repeat (first | refine gA ?_ | refine gB ?_ | refine gC rfl ?_ | refine gD rfl ?_ | ((first | refine gE env hN (by kernel_rfl) ?_ | refine gF ?_ | refine gG ?_ | refine gH fun hlen => ?_ | refine gI (by kernel_rfl) ?_ | refine gN rfl ?_ | refine gN (by omega) ?_ | refine gJ rfl ?_ | refine gK (by omega) ?_ | refine gL (by omega) ?_ | refine gK rfl ?_ | refine gO ?_); conv => whnf))
    (refine gM ?_; conv => whnf)
    exact retH rfl (.norm _) rfl rfl rfl trivial
  | true =>
    rw [hv] at sp1
    have hT : keysM t = keysTo t t.cols.length := by simp [keysM, hv]
    rw [hT]
    have f64 : t.cols.length ≤ 4294967295 := by
      simp only [validB, headB, Bool.and_eq_true, decide_eq_true_eq] at hv; omega
    (refine ⟨_, _, _, callG [] [] [] rfl rfl rfl (by kernel_rfl) (sp1) (by repeat' (first | exact trivial | exact Lent.refl _ | exact Lent.norm _ | apply And.intro)) rfl ⟨rfl, rfl, rfl, rfl, rfl, trivial, rfl, rfl⟩, ?_⟩; conv => whnf)
    repeat (first | refine gA ?_ | refine gB ?_ | refine gC rfl ?_ | refine gD rfl ?_ | ((first | refine gE env hN (by kernel_rfl) ?_ | refine gF ?_ | refine gG ?_ | refine gH fun hlen => ?_ | refine gI (by kernel_rfl) ?_ | refine gN rfl ?_ | refine gN (by omega) ?_ | refine gJ rfl ?_ | refine gK (by omega) ?_ | refine gL (by omega) ?_ | refine gK rfl ?_ | refine gO ?_); conv => whnf))
    refine W.ownNil 3 51 1 rfl rfl ?_
    refine W.loopG (fun m st => ∃ j : Nat, j ≤ t.cols.length ∧ m = t.cols.length - j ∧ st = ⟨[(1, .bp 1 0), (3, .osl 51 0 0 (intRows .i64 (keysTo t j)).length (intRows .i64 (keysTo t j)).length), (10, .int .i64 (colRows t.cols).length), (11, .int .i64 j)], [(1, [.rows 3 [t.row] none]), (51, [.rows 1 (intRows .i64 (keysTo t j)) (some [])])], [1, 51]⟩)
      t.cols.length _ ⟨0, by omega, by omega, rfl⟩ ⟨[(1, 1), (51, 51)], [], [], LeG.mk' rfl rfl rfl (by repeat' (first | exact trivial | exact ⟨_, .refl _, rfl⟩ | apply And.intro)) (.cons 1 rfl rfl (.refl _) rfl (.cons 51 rfl rfl (.refl _) rfl .nil)) rfl rfl (by rw [hK]; rfl)⟩ ?_
    rintro m st ⟨j, hj, rfl, rfl⟩
    repeat (first | refine gA ?_ | refine gB ?_ | refine gC rfl ?_ | refine gD rfl ?_ | ((first | refine gE env hN (by kernel_rfl) ?_ | refine gF ?_ | refine gG ?_ | refine gH fun hlen => ?_ | refine gI (by kernel_rfl) ?_ | refine gN rfl ?_ | refine gN (by omega) ?_ | refine gJ rfl ?_ | refine gK (by omega) ?_ | refine gL (by omega) ?_ | refine gK rfl ?_ | refine gO ?_); conv => whnf))
    refine boolRes_split (fun hb => ?_) (fun hb => ?_) <;> conv => whnf
    · have hlt : j < t.cols.length := by omega
      have sp2 := isKey_spec t j hlt
      have hsn := keysTo_snoc t j
      have hkl := keysTo_len t j
      have hil := intRows_len2 (keysTo t j)
      have hck : keyB t.cols[j].cells = keyAtB t j := by simp [keyAtB, colK, hlt]
      rw [hck] at sp2
      repeat (first | refine gA ?_ | refine gB ?_ | refine gC rfl ?_ | refine gD rfl ?_ | ((first | refine gE env hN (by kernel_rfl) ?_ | refine gF ?_ | refine gG ?_ | refine gH fun hlen => ?_ | refine gI (by kernel_rfl) ?_ | refine gN rfl ?_ | refine gN (by omega) ?_ | refine gJ rfl ?_ | refine gK (by omega) ?_ | refine gL (by omega) ?_ | refine gK rfl ?_ | refine gO ?_); conv => whnf))
      cases hkb : keyAtB t j with
      | true =>
        rw [hkb] at sp2
        rw [if_pos hkb] at hsn
        (refine ⟨_, _, _, callG [] [] [] rfl rfl rfl (by kernel_rfl) (sp2) (by repeat' (first | exact trivial | exact Lent.refl _ | exact Lent.norm _ | apply And.intro)) rfl ⟨rfl, rfl, rfl, rfl, rfl, trivial, rfl, rfl⟩, ?_⟩; conv => whnf)
        repeat (first | refine gA ?_ | refine gB ?_ | refine gC rfl ?_ | refine gD rfl ?_ | ((first | refine gE env hN (by kernel_rfl) ?_ | refine gF ?_ | refine gG ?_ | refine gH fun hlen => ?_ | refine gI (by kernel_rfl) ?_ | refine gN rfl ?_ | refine gN (by omega) ?_ | refine gJ rfl ?_ | refine gK (by omega) ?_ | refine gL (by omega) ?_ | refine gK rfl ?_ | refine gO ?_); conv => whnf))
        refine ⟨⟨rowsSz_cons rfl rowsSz_nil, rfl⟩, fitsN (n := (intRows .i64 (keysTo t j)).length + 1) (b := 8) (by omega) (by omega), .inl ⟨rfl, rfl, ?_⟩⟩
        conv => whnf
        repeat (first | refine gA ?_ | refine gB ?_ | refine gC rfl ?_ | refine gD rfl ?_ | ((first | refine gE env hN (by kernel_rfl) ?_ | refine gF ?_ | refine gG ?_ | refine gH fun hlen => ?_ | refine gI (by kernel_rfl) ?_ | refine gN rfl ?_ | refine gN (by omega) ?_ | refine gJ rfl ?_ | refine gK (by omega) ?_ | refine gL (by omega) ?_ | refine gK rfl ?_ | refine gO ?_); conv => whnf))
        refine ⟨_, _, ?_, ⟨j + 1, by omega, rfl, rfl⟩, [(1, 1), (51, 51)], [], [], LeG.mk' rfl rfl rfl (by repeat' (first | exact trivial | exact ⟨_, .refl _, rfl⟩ | (rw [hsn, intRows_snoc2, List.length_append]; exact ⟨_, .refl _, rfl⟩) | apply And.intro)) (.cons 1 rfl rfl (.refl _) rfl (.cons 51 rfl rfl (.refl _) ?_ .nil)) rfl rfl (by rw [hK]; rfl)⟩
        · omega
        · rw [hsn, intRows_snoc2]; rfl
      | false =>
        rw [hkb] at sp2
        rw [if_neg (by rw [hkb]; simp)] at hsn
        (refine ⟨_, _, _, callG [] [] [] rfl rfl rfl (by kernel_rfl) (sp2) (by repeat' (first | exact trivial | exact Lent.refl _ | exact Lent.norm _ | apply And.intro)) rfl ⟨rfl, rfl, rfl, rfl, rfl, trivial, rfl, rfl⟩, ?_⟩; conv => whnf)
        repeat (first | refine gA ?_ | refine gB ?_ | refine gC rfl ?_ | refine gD rfl ?_ | ((first | refine gE env hN (by kernel_rfl) ?_ | refine gF ?_ | refine gG ?_ | refine gH fun hlen => ?_ | refine gI (by kernel_rfl) ?_ | refine gN rfl ?_ | refine gN (by omega) ?_ | refine gJ rfl ?_ | refine gK (by omega) ?_ | refine gL (by omega) ?_ | refine gK rfl ?_ | refine gO ?_); conv => whnf))
        refine ⟨_, _, ?_, ⟨j + 1, by omega, rfl, rfl⟩, [(1, 1), (51, 51)], [], [], LeG.mk' rfl rfl rfl (by repeat' (first | exact trivial | exact ⟨_, .refl _, rfl⟩ | (rw [hsn]; exact ⟨_, .refl _, rfl⟩) | apply And.intro)) (.cons 1 rfl rfl (.refl _) rfl (.cons 51 rfl rfl (.refl _) ?_ .nil)) rfl rfl (by rw [hK]; rfl)⟩
        · omega
        · rw [hsn]; rfl
    · have hje : j = t.cols.length := by omega
      subst hje
      refine W.leG (mp := []) (bo := [51]) (st' := ⟨[(3, .sl (intRows .i64 (keysTo t t.cols.length)) false), (12, .bool false)], [], []⟩) (LeG.mk' rfl rfl rfl ⟨⟨_, Lent.whole rfl rfl rfl rfl (.inl rfl), rfl⟩, ⟨_, .refl _, rfl⟩, trivial⟩ .nil rfl rfl (by rw [hK]; rfl)) ?_
      repeat (first | refine gA ?_ | refine gB ?_ | refine gC rfl ?_ | refine gD rfl ?_ | ((first | refine gE env hN (by kernel_rfl) ?_ | refine gF ?_ | refine gG ?_ | refine gH fun hlen => ?_ | refine gI (by kernel_rfl) ?_ | refine gN rfl ?_ | refine gN (by omega) ?_ | refine gJ rfl ?_ | refine gK (by omega) ?_ | refine gL (by omega) ?_ | refine gK rfl ?_ | refine gO ?_ | refine gM ?_); conv => whnf))
      exact ret0 rfl rfl rfl
def dwA : Table := ⟨0, [], [⟨[107], [⟨false, [120]⟩]⟩, ⟨[118], [⟨false, [49]⟩]⟩]⟩
def dwB : Table := ⟨0, [], [⟨[107], [⟨false, [120]⟩]⟩, ⟨[118], [⟨false, [50]⟩]⟩]⟩
def dwD : Delta := ⟨[⟨false, [120]⟩], [[⟨false, [120]⟩, ⟨false, [50]⟩]]⟩
theorem dw1 : ofM dwA dwB 0 = (dwD, 0) := by decide +kernel
theorem dw2a : mayM dwA 0 dwD = 0 := by
  have h1 : validB dwA = true := by decide +kernel
  have h2 : goodD dwA.cols.length dwD = true := by decide +kernel
  have h3 : checkM 0 [dwA] = 0 := by decide +kernel
  have h4 : clashD (textsOf (colK dwA 0)) 0 dwD = false := by decide +kernel
  have h5 : ¬ (rowsN dwA : Int) - dwD.drop.length + dwD.add.length > 4096 := by decide
  unfold mayM
  rw [if_pos ⟨h1, h2⟩, if_pos h3, if_neg (by rw [show (0 : Int).toNat = 0 from rfl, h4]; simp), if_neg h5]
theorem dw2b : applyD dwA 0 dwD = dwB := by decide +kernel
theorem dw2 : applyM dwA 0 dwD = (dwB, 0) := by
  unfold applyM
  rw [if_pos dw2a, show (0 : Int).toNat = 0 from rfl, dw2b]
theorem dw3 : keysM dwA = [0, 1] := by decide +kernel
end Go.Sx.Sp
namespace Go.Sx.Sp
open Go Go.Sx Go.Proofs
attribute [local irreducible] GoodW
theorem dwS1 : Spec Tryd.prog 15 [.agg dwA.row, .agg dwB.row, .int .i64 0] [] (.tup [.agg dwD.row, .int .i64 0]) [] := by
  have sp1 := of_spec dwA dwB 0 (by decide) (by decide)
  rw [dw1] at sp1
  exact sp1
theorem dwS2 : Spec Tryd.prog 16 [.agg dwA.row, .int .i64 0, .agg dwD.row] [] (.tup [.agg dwB.row, .int .i64 0]) [] := by
  have sp2 := apply_spec dwA 0 dwD (by decide) (by decide)
  rw [dw2] at sp2
  exact sp2
theorem dwS3 : Spec Tryd.prog 19 [.agg dwB.row, .agg dwB.row] [] (.bool true) [] := by
  have sp3 := same3_spec dwB dwB
  rw [decide_eq_true rfl] at sp3
  exact sp3
theorem dwS4 : Spec Tryd.prog 44 [.agg dwA.row] [] (.sl [[.int .i64 0], [.int .i64 1]] false) [] := by
  have sp4 := keys_spec dwA
  rw [dw3] at sp4
  exact sp4
set_option maxHeartbeats 8000000 in
theorem awake37_spec : Spec Tryd.prog 12 [] [] (.bool true) [] := by
  have sp1 := dwS1
  have sp2 := dwS2
  have sp3 := dwS3
  have sp4 := dwS4
  refine Spec.body env Tryd.func12 rfl (by kernel_rfl) (Nat.le_of_ble_eq_true (by kernel_rfl)) (keysSub rfl) fun Γ hN hK => ?_; have hML : maxLen = 9223372036854775807 := by unfold maxLen; rfl
  repeat (first | refine gA ?_ | refine gB ?_ | refine gC rfl ?_ | refine gD rfl ?_ | ((first | refine gE env hN (by kernel_rfl) ?_ | refine gF ?_ | refine gG ?_ | refine gH fun hlen => ?_ | refine gI (by kernel_rfl) ?_ | refine gN rfl ?_ | refine gN (by omega) ?_ | refine gJ rfl ?_ | refine gK (by omega) ?_ | refine gL (by omega) ?_ | refine gK rfl ?_ | refine gO ?_); conv => whnf))
  (refine ⟨_, _, _, callG [] [] [] rfl rfl rfl (by kernel_rfl) (sp1) (by repeat' (first | exact trivial | exact Lent.refl _ | exact Lent.norm _ | apply And.intro)) rfl ⟨rfl, rfl, rfl, rfl, rfl, trivial, rfl, rfl⟩, ?_⟩; conv => whnf)
  repeat (first | refine gA ?_ | refine gB ?_ | refine gC rfl ?_ | refine gD rfl ?_ | ((first | refine gE env hN (by kernel_rfl) ?_ | refine gF ?_ | refine gG ?_ | refine gH fun hlen => ?_ | refine gI (by kernel_rfl) ?_ | refine gN rfl ?_ | refine gN (by omega) ?_ | refine gJ rfl ?_ | refine gK (by omega) ?_ | refine gL (by omega) ?_ | refine gK rfl ?_ | refine gO ?_); conv => whnf))
  (refine ⟨_, _, _, callG [] [] [] rfl rfl rfl (by kernel_rfl) (sp2) (by repeat' (first | exact trivial | exact Lent.refl _ | exact Lent.norm _ | apply And.intro)) rfl ⟨rfl, rfl, rfl, rfl, rfl, trivial, rfl, rfl⟩, ?_⟩; conv => whnf)
  repeat ((first | refine gI (by kernel_rfl) ?_ | refine gH fun hlen => ?_ | refine gN rfl ?_ | refine gN (by omega) ?_ | refine gJ rfl ?_ | refine gK (by omega) ?_ | refine gL (by omega) ?_ | refine gK rfl ?_ | refine gO ?_); conv => whnf)
  refine gA ?_
  refine W.leG (mp := [(1, 1), (2, 2), (3, 3), (5, 5)]) (bo := []) (st' := ⟨[(1, .bp 1 0), (2, .bp 2 0), (3, .bp 3 0), (4, .int .i64 0), (5, .bp 5 0), (6, .int .i64 0)], [(1, [.rows 3 [dwA.row] none]), (2, [.rows 3 [dwB.row] none]), (3, [.rows 2 [dwD.row] none]), (5, [.rows 3 [dwB.row] none])], [1, 2, 3, 5]⟩)
    (LeG.mk' rfl rfl rfl (by repeat' (first | exact trivial | exact ⟨_, .refl _, rfl⟩ | apply And.intro)) (.cons 1 rfl rfl (.refl _) rfl (.cons 2 rfl rfl (.refl _) rfl (.cons 3 rfl rfl (.refl _) rfl (.cons 5 rfl rfl (.refl _) rfl .nil)))) rfl rfl (by rw [hK]; rfl)) ?_
  repeat (first | refine gA ?_ | refine gB ?_ | refine gC rfl ?_ | refine gD rfl ?_ | ((first | refine gE env hN (by kernel_rfl) ?_ | refine gF ?_ | refine gG ?_ | refine gH fun hlen => ?_ | refine gI (by kernel_rfl) ?_ | refine gN rfl ?_ | refine gN (by omega) ?_ | refine gJ rfl ?_ | refine gK (by omega) ?_ | refine gL (by omega) ?_ | refine gK rfl ?_ | refine gO ?_); conv => whnf))
  (refine ⟨_, _, _, callG [] [] [] rfl rfl rfl (by kernel_rfl) (sp3) (by repeat' (first | exact trivial | exact Lent.refl _ | exact Lent.norm _ | apply And.intro)) rfl ⟨rfl, rfl, rfl, rfl, rfl, trivial, rfl, rfl⟩, ?_⟩; conv => whnf)
  repeat (first | refine gA ?_ | refine gB ?_ | refine gC rfl ?_ | refine gD rfl ?_ | ((first | refine gE env hN (by kernel_rfl) ?_ | refine gF ?_ | refine gG ?_ | refine gH fun hlen => ?_ | refine gI (by kernel_rfl) ?_ | refine gN rfl ?_ | refine gN (by omega) ?_ | refine gJ rfl ?_ | refine gK (by omega) ?_ | refine gL (by omega) ?_ | refine gK rfl ?_ | refine gO ?_); conv => whnf))
  (refine ⟨_, _, _, callG [] [] [] rfl rfl rfl (by kernel_rfl) (sp4) (by repeat' (first | exact trivial | exact Lent.refl _ | exact Lent.norm _ | apply And.intro)) rfl ⟨rfl, rfl, rfl, rfl, rfl, trivial, rfl, rfl⟩, ?_⟩; conv => whnf)
  repeat (first | refine gA ?_ | refine gB ?_ | refine gC rfl ?_ | refine gD rfl ?_ | ((first | refine gE env hN (by kernel_rfl) ?_ | refine gF ?_ | refine gG ?_ | refine gH fun hlen => ?_ | refine gI (by kernel_rfl) ?_ | refine gN rfl ?_ | refine gN (by omega) ?_ | refine gJ rfl ?_ | refine gK (by omega) ?_ | refine gL (by omega) ?_ | refine gK rfl ?_ | refine gO ?_ | refine gM ?_); conv => whnf))
  exact ret0 rfl rfl rfl
end Go.Sx.Sp
namespace Go.Sx.Sp
open Go Go.Sx Go.Proofs
attribute [local irreducible] GoodW
abbrev Pair := Str × Str
def keyC (p : Pair) : Cell := cellOf p.1
def valC (p : Pair) : Cell := cellOf p.2
def rowOf (p : Pair) : List Cell := [valC p, keyC p]
def pairT (id : Int) (ps : List Pair) : Table := ⟨id, [], [⟨[118], ps.map valC⟩, ⟨[107, 101, 121], ps.map keyC⟩]⟩
structure PairOK (ps : List Pair) : Prop where
  nd : (ps.map Prod.fst).Nodup
  kw : ∀ p ∈ ps, p.1 ∈ keyWords
  vw : ∀ p ∈ ps, p.2 ∈ valWords
theorem keyT_pair (id : Int) {r : List Str × List Str} (h : r.2.length = r.1.length) : keyT id r = pairT id (r.1.zip r.2) := by
  have h1 : (r.1.zip r.2).map Prod.fst = r.1 := by rw [List.map_fst_zip (by omega)]
  have h2 : (r.1.zip r.2).map Prod.snd = r.2 := by rw [List.map_snd_zip (by omega)]
  unfold keyT pairT
  rw [show (r.1.zip r.2).map valC = ((r.1.zip r.2).map Prod.snd).map cellOf by rw [List.map_map]; rfl, show (r.1.zip r.2).map keyC = ((r.1.zip r.2).map Prod.fst).map cellOf by rw [List.map_map]; rfl, h1, h2]
theorem keyOK_pair {r : List Str × List Str} (h : KeyOK r) : PairOK (r.1.zip r.2) := by
  have h1 : (r.1.zip r.2).map Prod.fst = r.1 := by rw [List.map_fst_zip (by have := h.len; omega)]
  refine ⟨by rw [h1]; exact h.nd, fun p hp => h.kw _ (List.of_mem_zip hp).1, fun p hp => h.vw _ (List.of_mem_zip hp).2⟩
theorem PairOK.len {ps : List Pair} (h : PairOK ps) : ps.length ≤ 7 := by
  have := h.nd.length_le_of_subset (l₂ := keyWords) (fun s hs => by obtain ⟨p, hp, rfl⟩ := List.mem_map.1 hs; exact h.kw p hp)
  rw [List.length_map] at this
  exact this
theorem PairOK.nodup {ps : List Pair} (h : PairOK ps) : ps.Nodup := List.Pairwise.of_map Prod.fst (fun a b hab e => hab (by rw [e])) h.nd
theorem PairOK.uniq {ps : List Pair} (h : PairOK ps) {p q : Pair} (hp : p ∈ ps) (hq : q ∈ ps) (e : p.1 = q.1) : p = q := by
  obtain ⟨i, hi, rfl⟩ := List.getElem_of_mem hp
  obtain ⟨j, hj, rfl⟩ := List.getElem_of_mem hq
  have hp := List.pairwise_iff_getElem.1 h.nd
  rcases Nat.lt_trichotomy i j with h1 | h1 | h1
  · exact absurd (by rw [List.getElem_map, List.getElem_map]; exact e) (hp i j (by simpa using hi) (by simpa using hj) h1)
  · subst h1; rfl
  · exact absurd (by rw [List.getElem_map, List.getElem_map]; exact e.symm) (hp j i (by simpa using hj) (by simpa using hi) h1)
theorem kw_cell {s : Str} (h : s ∈ keyWords) : cellB (cellOf s) = true := by
  have : ∀ s ∈ keyWords, cellB (cellOf s) = true := by decide +kernel
  exact this s h
theorem vw_cell {s : Str} (h : s ∈ valWords) : cellB (cellOf s) = true := by
  have : ∀ s ∈ valWords, cellB (cellOf s) = true := by decide +kernel
  exact this s h
theorem pair_rows (id : Int) (ps : List Pair) : rowsN (pairT id ps) = ps.length := by simp [rowsN, pairT]
theorem pair_valid {id : Int} {ps : List Pair} (h : PairOK ps) (hid : 0 ≤ id ∧ id ≤ 1073741824) : validB (pairT id ps) = true := by
  have hl := h.len
  unfold validB
  rw [Bool.and_eq_true]
  constructor
  · unfold headB
    rw [pair_rows]
    have h1 : fineB [] = true := by decide +kernel
    simp only [pairT, h1, Bool.and_true, Bool.and_eq_true, decide_eq_true_eq]
    exact ⟨⟨decide_eq_true hid, by simp⟩, by omega⟩
  · rw [Bool.not_eq_true', List.any_eq_false]
    intro c hc
    unfold badCol
    rw [pair_rows]
    simp only [pairT, List.mem_cons, List.not_mem_nil, or_false] at hc
    rcases hc with rfl | rfl
    · have h1 : fineB [118] = true := by decide +kernel
      have h2 : (ps.map valC).all cellB = true := List.all_eq_true.2 fun x hx => by
        obtain ⟨p, hp, rfl⟩ := List.mem_map.1 hx; exact vw_cell (h.vw p hp)
      simp [h1, h2]
    · have h1 : fineB [107, 101, 121] = true := by decide +kernel
      have h2 : (ps.map keyC).all cellB = true := List.all_eq_true.2 fun x hx => by
        obtain ⟨p, hp, rfl⟩ := List.mem_map.1 hx; exact kw_cell (h.kw p hp)
      simp [h1, h2]
theorem pair_col (id : Int) (ps : List Pair) : colK (pairT id ps) 1 = ps.map keyC := rfl
theorem pair_texts (id : Int) (ps : List Pair) : textsOf (colK (pairT id ps) 1) = ps.map Prod.fst := by
  rw [pair_col]; unfold textsOf; rw [List.map_map]; rfl
theorem pair_key {id : Int} {ps : List Pair} (h : PairOK ps) : keyB (colK (pairT id ps) 1) = true := by
  rw [keyB_iff]
  refine ⟨fun c hc => ?_, by rw [pair_texts]; exact h.nd⟩
  rw [pair_col] at hc
  obtain ⟨p, _, rfl⟩ := List.mem_map.1 hc
  rfl
theorem pair_check1 {i : Int} {a : List Pair} (h : PairOK a) : checkM 1 [pairT i a] = 0 := by
  have h1 : inB 1 (pairT i a) = true := by simp [inB, pairT]
  have h2 := pair_key (id := i) h
  unfold checkM
  simp [h1, h2]
theorem pair_check2 {i j : Int} {a b : List Pair} (h : PairOK a) (g : PairOK b) : checkM 1 [pairT i a, pairT j b] = 0 := by
  have h1 : inB 1 (pairT i a) = true := by simp [inB, pairT]
  have h2 := pair_key (id := i) h
  have h3 : inB 1 (pairT j b) = true := by simp [inB, pairT]
  have h4 := pair_key (id := j) g
  unfold checkM
  simp [h1, h2, h3, h4]
theorem pair_row (id : Int) {ps : List Pair} {i : Nat} (hi : i < ps.length) : rowM (pairT id ps) i = rowOf ps[i] := by
  simp [rowM, pairT, cellAt, hi, rowOf]
end Go.Sx.Sp
namespace Go.Sx.Sp
open Go Go.Sx Go.Proofs
attribute [local irreducible] GoodW
theorem range_fm {α β : Type} {l : List α} {P : Nat → Bool} {q : α → Bool} {F : Nat → β} {f : α → β} (hP : ∀ i (h : i < l.length), P i = q l[i]) (hF : ∀ i (h : i < l.length), F i = f l[i]) : ((List.range l.length).filter P).map F = (l.filter q).map f := by
  have key : ∀ n, n ≤ l.length → ((List.range n).filter P).map F = ((l.take n).filter q).map f := by
    intro n
    induction n with
    | zero => intro _; simp
    | succ n ih =>
      intro hn
      have hlt : n < l.length := by omega
      rw [List.range_succ, List.filter_append, List.map_append, ih (by omega), List.take_succ_eq_append_getElem hlt, List.filter_append, List.map_append]
      congr 1
      have h1 := hP n hlt
      have h2 := hF n hlt
      by_cases h : q l[n] = true
      · simp [h1, h, h2]
      · simp [h1, h]
  have := key l.length (Nat.le_refl _)
  rwa [List.take_length] at this
def dlt (dk : List Str) (ad : List Pair) : Delta := ⟨dk.map cellOf, ad.map rowOf⟩
theorem cell_not_bad {s : Str} (h : cellB (cellOf s) = true) : badB (cellOf s) = false := by simp [badB, h]
theorem dlt_good {dk : List Str} {ad : List Pair} (h1 : ∀ s ∈ dk, cellB (cellOf s) = true) (h2 : ∀ p ∈ ad, cellB (cellOf p.1) = true ∧ cellB (cellOf p.2) = true) : goodD 2 (dlt dk ad) = true := by
  unfold goodD dlt
  rw [Bool.and_eq_true]
  constructor
  · rw [List.all_eq_true]
    intro r hr
    obtain ⟨p, hp, rfl⟩ := List.mem_map.1 hr
    have a1 := cell_not_bad (h2 p hp).1
    have a2 := cell_not_bad (h2 p hp).2
    simp [rowOf, valC, keyC, a1, a2]
  · rw [Bool.not_eq_true', List.any_eq_false]
    intro c hc
    obtain ⟨s, hs, rfl⟩ := List.mem_map.1 hc
    simp [cell_not_bad (h1 s hs)]
theorem dropK_all : ∀ (dk L : List Str), L.Nodup → dk.Nodup → (∀ s ∈ dk, s ∈ L) → dropK L (dk.map cellOf) = some (L.filter fun s => decide (s ∉ dk)) := by
  intro dk
  induction dk with
  | nil => intro L _ _ _; simp only [List.map_nil, dropK]; congr 1; exact (List.filter_eq_self.2 (by simp)).symm
  | cons s dk ih =>
    intro L hL hd hs
    have hd' := List.nodup_cons.1 hd
    rw [List.map_cons]
    unfold dropK
    rw [if_pos ⟨hs s List.mem_cons_self, rfl⟩, show (cellOf s).text = s from rfl, ih _ (hL.erase _) hd'.2 (fun t ht => by rw [hL.mem_erase_iff]; exact ⟨fun e => hd'.1 (e ▸ ht), hs t (List.mem_cons_of_mem _ ht)⟩), hL.erase_eq_filter, List.filter_filter]
    congr 1
    refine List.filter_congr fun x _ => ?_
    by_cases e : x = s <;> simp [e]
theorem keyAt_rowOf (p : Pair) : keyAt 1 (rowOf p) = p.1 := rfl
theorem addK_all : ∀ (ad : List Pair) (L : List Str), (ad.map Prod.fst).Nodup → (∀ p ∈ ad, p.1 ∉ L) → addK 1 L (ad.map rowOf) = some (L ++ ad.map Prod.fst) := by
  intro ad
  induction ad with
  | nil => intro L _ _; simp [addK]
  | cons p ad ih =>
    intro L hn hL
    rw [List.map_cons] at hn
    have hn' := List.nodup_cons.1 hn
    rw [List.map_cons]
    unfold addK
    rw [keyAt_rowOf, if_pos ⟨hL p List.mem_cons_self, rfl⟩, ih _ hn'.2 (fun q hq => ?_)]
    · simp
    · rw [List.mem_append]
      rintro (h | h)
      · exact hL q (List.mem_cons_of_mem _ hq) h
      · simp at h; exact hn'.1 (by rw [← h]; exact List.mem_map_of_mem hq)
structure Fits (a : List Pair) (dk : List Str) (ad : List Pair) : Prop where
  nd : dk.Nodup
  sub : ∀ s ∈ dk, s ∈ a.map Prod.fst
  an : (ad.map Prod.fst).Nodup
  dis : ∀ p ∈ ad, p.1 ∈ a.map Prod.fst → p.1 ∈ dk
  ac : ∀ p ∈ ad, cellB (cellOf p.1) = true ∧ cellB (cellOf p.2) = true
  al : ad.length ≤ 4000
theorem fits_may {i : Int} {a : List Pair} {dk : List Str} {ad : List Pair} (h : PairOK a) (hid : 0 ≤ i ∧ i ≤ 1073741824) (hf : Fits a dk ad) : mayM (pairT i a) 1 (dlt dk ad) = 0 := by
  have h1 := pair_valid h hid
  have h2 : goodD (pairT i a).cols.length (dlt dk ad) = true := dlt_good (fun s hs => by
    obtain ⟨p, hp, rfl⟩ := List.mem_map.1 (hf.sub s hs)
    exact kw_cell (h.kw p hp)) hf.ac
  have h3 := pair_check1 (i := i) h
  have h4 : clashD (textsOf (colK (pairT i a) 1)) 1 (dlt dk ad) = false := by
    rw [pair_texts]
    unfold clashD
    rw [show (dlt dk ad).drop = dk.map cellOf from rfl, show (dlt dk ad).add = ad.map rowOf from rfl, dropK_all dk _ h.nd hf.nd hf.sub]
    simp only
    rw [addK_all ad _ hf.an (fun p hp hm => ?_)]
    · rfl
    · rw [List.mem_filter] at hm
      have h5 : p.1 ∉ dk := of_decide_eq_true hm.2
      exact h5 (hf.dis p hp hm.1)
  have h5 : ¬ (rowsN (pairT i a) : Int) - (dlt dk ad).drop.length + (dlt dk ad).add.length > 4096 := by
    have := h.len
    have := hf.al
    rw [pair_rows]
    simp only [dlt, List.length_map]
    omega
  unfold mayM
  rw [if_pos ⟨h1, h2⟩, if_pos h3, if_neg (by rw [show (1 : Int).toNat = 1 from rfl, h4]; simp), if_neg h5]
def appP (a : List Pair) (dk : List Str) (ad : List Pair) : List Pair := a.filter (fun p => decide (p.1 ∉ dk)) ++ ad
theorem pair_apply (i : Int) (a : List Pair) (dk : List Str) (ad : List Pair) : applyD (pairT i a) 1 (dlt dk ad) = pairT i (appP a dk ad) := by
  have hkeep : ∀ j (h : j < a.length), keepB (pairT i a) 1 (dlt dk ad) j = decide (a[j].1 ∉ dk) := fun j h => by
    unfold keepB
    have e1 : (cellI (colK (pairT i a) 1) j).text = a[j].1 := by rw [pair_col]; simp [cellI, h, keyC, cellOf]
    have e2 : textsOf (dlt dk ad).drop = dk := by
      simp only [dlt, textsOf, List.map_map]
      exact List.map_id'' (fun s => rfl) dk
    rw [e1, e2]
  have hk : ∀ (n : Str) (f : Pair → Cell), keptA (pairT i a) 1 (dlt dk ad) ⟨n, a.map f⟩ (a.map f).length = (a.filter fun p => decide (p.1 ∉ dk)).map f := fun n f => by
    unfold keptA
    rw [List.length_map]
    exact range_fm hkeep (fun j h => by simp [cellI, h])
  unfold applyD
  have hc : colsA (pairT i a) 1 (dlt dk ad) (pairT i a).cols.length = [colA (pairT i a) 1 (dlt dk ad) 0 ⟨[118], a.map valC⟩, colA (pairT i a) 1 (dlt dk ad) 1 ⟨[107, 101, 121], a.map keyC⟩] := rfl
  rw [hc]
  unfold colA
  simp only
  rw [hk, hk]
  simp [pairT, appP, dlt, rowOf, cellI, Function.comp_def]
theorem fits_apply {i : Int} {a : List Pair} {dk : List Str} {ad : List Pair} (h : PairOK a) (hid : 0 ≤ i ∧ i ≤ 1073741824) (hf : Fits a dk ad) : applyM (pairT i a) 1 (dlt dk ad) = (pairT i (appP a dk ad), 0) := by
  unfold applyM
  rw [if_pos (fits_may h hid hf), show (1 : Int).toNat = 1 from rfl, pair_apply]
end Go.Sx.Sp
namespace Go.Sx.Sp
open Go Go.Sx Go.Proofs
attribute [local irreducible] GoodW
noncomputable def keyR (l : List Int) (p : Nat) : (List Str × List Str) × Nat := keyGo l (nextV l p 7).toNat (nextP l p) [] []
noncomputable def pairsF (l : List Int) (p : Nat) : List Pair := (keyR l p).1.1.zip (keyR l p).1.2
theorem pairsF_ok {l : List Int} {p : Nat} (hp : p ≤ l.length) : PairOK (pairsF l p) ∧ (keyR l p).2 ≤ l.length ∧ (pairsF l p).length ≤ 6 ∧
    ∀ id : Int, Spec Tryd.prog 14 [.bp 0 0, .int .i64 id] [(0, diceB l p)] (.agg (pairT id (pairsF l p)).row) [(0, diceB l (keyR l p).2)] := by
  have hr := nextV_range l p (n := 7) (by omega)
  obtain ⟨h1, h2, h3⟩ := keyGo_ok (l := l) (nextV l p 7).toNat (nextP l p) [] [] (nextP_le hp) ⟨List.nodup_nil, rfl, fun _ h => (by cases h), fun _ h => (by cases h)⟩
  refine ⟨keyOK_pair h1, h2, ?_, fun id => ?_⟩
  · unfold pairsF; rw [List.length_zip]; simp only [List.length_nil] at h3; unfold keyR; omega
  · have sp := keyed_spec l id p hp
    have e : keyT id (keyR l p).1 = pairT id (pairsF l p) := keyT_pair id h1.len
    rw [show (keyF l id p).1 = keyT id (keyR l p).1 from rfl, e] at sp
    exact sp
end Go.Sx.Sp
namespace Go.Sx.Sp
open Go Go.Sx Go.Proofs
attribute [local irreducible] GoodW
end Go.Sx.Sp
