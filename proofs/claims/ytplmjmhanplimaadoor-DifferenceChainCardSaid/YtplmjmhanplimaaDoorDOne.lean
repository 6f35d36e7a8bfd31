/- Contracts of differences. -/
import Derived.Test.YtplmjmhanplimaaDoorQTwo
import Derived.Test.YtplmjmhanplimaaDoorSxFour
import Derived.Test.YtplmjmhanplimaaDoorQOne
import Derived.Test.YtplmjmhanplimaaDoorQFour
import Derived.Shelf.Small.Strs
set_option linter.unusedVariables false
set_option linter.unusedSimpArgs false
namespace Go.Sx.Sp
open Go Go.Sx Go.Proofs
attribute [local irreducible] GoodW
def ixS (t : Str) : List Str → Option Nat
  | [] => none
  | s :: l => if t = s then some 0 else (ixS t l).map (· + 1)
def mapG (f : Nat → V) : Nat → List Str → List (Nat × V × V)
  | _, [] => []
  | k, s :: l => (k, .str s, f k) :: mapG f (k + 1) l
theorem mapG_at (f : Nat → V) (t : Str) : ∀ (l : List Str) (k : Nat), mapAt (.str t) (mapG f k l) = some ((ixS t l).map fun i => (i, k + i, f (k + i)))
  | [], k => rfl
  | s :: l, k => by
    by_cases h : t = s
    · subst h
      simp [mapG, mapAt, eqKey, ixS]
    · have := mapG_at f t l (k + 1)
      simp only [mapG, mapAt, eqKey, h, decide_false, this, ixS, if_false]
      cases ixS t l with
      | none => rfl
      | some i =>
        simp only [Option.map_some]
        rw [show k + 1 + i = k + (i + 1) by omega]
theorem mapG_len (f : Nat → V) : ∀ (l : List Str) (k : Nat), (mapG f k l).length = l.length
  | [], _ => rfl
  | s :: l, k => by simp [mapG, mapG_len f l]
theorem mapG_snoc (f : Nat → V) (s : Str) : ∀ (l : List Str) (k : Nat), mapG f k (l ++ [s]) = mapG f k l ++ [(k + l.length, .str s, f (k + l.length))]
  | [], k => rfl
  | u :: l, k => by
    simp only [List.cons_append, mapG, mapG_snoc f s l (k + 1), List.length_cons]
    rw [show k + 1 + l.length = k + (l.length + 1) by omega]
theorem ixS_none {t : Str} : ∀ {l : List Str}, ixS t l = none ↔ t ∉ l
  | [] => by simp [ixS]
  | s :: l => by
    by_cases h : t = s
    · simp [ixS, h]
    · simp [ixS, h, ixS_none (l := l)]
theorem ixS_some {t : Str} : ∀ {l : List Str} {i : Nat}, ixS t l = some i → l[i]? = some t
  | [], i, h => by cases h
  | s :: l, i, h => by
    by_cases e : t = s
    · simp only [ixS, e, if_true, Option.some.injEq] at h; subst h; simp [e]
    · simp only [ixS, e, if_false, Option.map_eq_some_iff] at h
      obtain ⟨j, hj, rfl⟩ := h
      simpa using ixS_some hj
theorem mapG_new (f : Nat → V) {t : Str} {l : List Str} (h : t ∉ l) : mapAt (.str t) (mapG f 0 l) = some none := by rw [mapG_at, ixS_none.2 h]; rfl
theorem flags_at (t : Str) (l : List Str) : ∃ r, mapAt (.str t) (mapG (fun _ => .bool true) 0 l) = some r ∧ lookAt (mapG (fun _ => V.bool true) 0 l) (.bool false) false r = .bool (decide (t ∈ l)) := by
  refine ⟨_, mapG_at _ t l 0, ?_⟩
  cases h : ixS t l with
  | none => simp [lookAt, lookRes, ixS_none.1 h]
  | some i =>
    have := List.mem_of_getElem? (ixS_some h)
    simp [lookAt, lookRes, this]
def keyFrom (seen : List Str) : List Cell → Bool
  | [] => true
  | c :: cs => !c.null && !decide (c.text ∈ seen) && keyFrom (seen ++ [c.text]) cs
def keyB (cs : List Cell) : Bool := keyFrom [] cs
def textsOf (cs : List Cell) : List Str := cs.map Cell.text
theorem keyFrom_iff : ∀ (cs : List Cell) (seen : List Str), keyFrom seen cs = true ↔ (∀ c ∈ cs, c.null = false) ∧ (∀ c ∈ cs, c.text ∉ seen) ∧ (textsOf cs).Nodup
  | [], seen => by simp [keyFrom, textsOf]
  | c :: cs, seen => by
    simp only [keyFrom, Bool.and_eq_true, keyFrom_iff cs, textsOf, List.map_cons, List.nodup_cons, List.mem_cons, Bool.not_eq_true', decide_eq_false_iff_not, List.mem_append, List.not_mem_nil, or_false]
    constructor
    · rintro ⟨⟨h1, h2⟩, h3, h4, h5⟩
      refine ⟨?_, ?_, ?_, h5⟩
      · rintro x (rfl | hx)
        · exact h1
        · exact h3 x hx
      · rintro x (rfl | hx)
        · exact h2
        · exact fun h => h4 x hx (.inl h)
      · intro hm
        obtain ⟨x, hx, e⟩ := List.mem_map.1 hm
        exact h4 x hx (.inr e)
    · rintro ⟨h1, h2, h3, h4⟩
      refine ⟨⟨h1 c (.inl rfl), h2 c (.inl rfl)⟩, fun x hx => h1 x (.inr hx), fun x hx => ?_, h4⟩
      rintro (h | h)
      · exact h2 x (.inr hx) h
      · exact h3 (by rw [← h]; exact List.mem_map.2 ⟨x, hx, rfl⟩)
theorem keyB_iff (cs : List Cell) : keyB cs = true ↔ (∀ c ∈ cs, c.null = false) ∧ (textsOf cs).Nodup := by
  unfold keyB; rw [keyFrom_iff]; simp
set_option maxHeartbeats 2000000 in
theorem isKey_spec (t : Table) (k : Nat) (hk : k < t.cols.length) : Spec Tryd.prog 81 [.agg t.row, .int .i64 k] [] (.bool (keyB t.cols[k].cells)) [] := by
  have hcl := colRows_len t.cols
  have hx := colRows_get hk
  generalize t.cols[k] = c at *
  have hl := cellRows_len c.cells
  unfold keyB
  refine Spec.body env Tryd.func81 rfl (by kernel_rfl) (Nat.le_of_ble_eq_true (by kernel_rfl)) (keysSub rfl) fun Γ hN hK => ?_; have hML : maxLen = 9223372036854775807 := by unfold maxLen; rfl
  repeat (first | refine gA ?_ | refine gB ?_ | refine gC rfl ?_ | refine gD rfl ?_ | ((first | refine gE env hN (by kernel_rfl) ?_ | refine gF ?_ | refine gG ?_ | refine gH fun hlen => ?_ | refine gI (by kernel_rfl) ?_ | refine gN rfl ?_ | refine gN (by omega) ?_ | refine gJ rfl ?_ | refine gK (by omega) ?_ | refine gL (by omega) ?_ | refine gK rfl ?_ | refine gO ?_); conv => whnf))
  refine rowAt_of (by simpa using hx) ?_
  conv => whnf
  repeat (first | refine gA ?_ | refine gB ?_ | refine gC rfl ?_ | refine gD rfl ?_ | ((first | refine gE env hN (by kernel_rfl) ?_ | refine gF ?_ | refine gG ?_ | refine gH fun hlen => ?_ | refine gI (by kernel_rfl) ?_ | refine gN rfl ?_ | refine gN (by omega) ?_ | refine gJ rfl ?_ | refine gK (by omega) ?_ | refine gL (by omega) ?_ | refine gK rfl ?_ | refine gO ?_); conv => whnf))
  refine W.loopG (fun n st => ∃ j : Nat, j ≤ c.cells.length ∧ keyFrom [] c.cells = keyFrom (textsOf (c.cells.take j)) (c.cells.drop j) ∧ n = c.cells.length - j ∧ st = ⟨[(5, .omap 8 0), (14, .sl (cellRows c.cells) false), (15, .int .i64 (cellRows c.cells).length), (16, .int .i64 j)], [(8, [.map (mapG (fun _ => .bool true) 0 (textsOf (c.cells.take j))) (textsOf (c.cells.take j)).length (some [])])], [8]⟩)
    c.cells.length _ ⟨0, by omega, rfl, by omega, rfl⟩ ⟨[(8, 8)], [], [], LeG.mk' rfl rfl rfl (by repeat' (first | exact trivial | exact ⟨_, .refl _, rfl⟩ | apply And.intro)) (.cons 8 rfl rfl (.refl _) rfl .nil) rfl rfl (by rw [hK]; rfl)⟩ ?_
  rintro n st ⟨j, hj, hkf, rfl, rfl⟩
  repeat (first | refine gA ?_ | refine gB ?_ | refine gC rfl ?_ | refine gD rfl ?_ | ((first | refine gE env hN (by kernel_rfl) ?_ | refine gF ?_ | refine gG ?_ | refine gH fun hlen => ?_ | refine gI (by kernel_rfl) ?_ | refine gN rfl ?_ | refine gN (by omega) ?_ | refine gJ rfl ?_ | refine gK (by omega) ?_ | refine gL (by omega) ?_ | refine gK rfl ?_ | refine gO ?_); conv => whnf))
  refine boolRes_split (fun hb => ?_) (fun hb => ?_) <;> conv => whnf
  · have hlt : j < c.cells.length := by omega
    have hg := cellRows_get hlt
    have hd : c.cells.drop j = c.cells[j] :: c.cells.drop (j + 1) := List.drop_eq_getElem_cons hlt
    have ht : textsOf (c.cells.take (j + 1)) = textsOf (c.cells.take j) ++ [c.cells[j].text] := by
      unfold textsOf; rw [List.take_succ_eq_append_getElem hlt, List.map_append]; rfl
    rw [hd] at hkf
    simp only [keyFrom] at hkf
    rw [← ht] at hkf
    generalize c.cells[j] = x at *
    repeat (first | refine gA ?_ | refine gB ?_ | refine gC rfl ?_ | refine gD rfl ?_ | ((first | refine gE env hN (by kernel_rfl) ?_ | refine gF ?_ | refine gG ?_ | refine gH fun hlen => ?_ | refine gI (by kernel_rfl) ?_ | refine gN rfl ?_ | refine gN (by omega) ?_ | refine gJ rfl ?_ | refine gK (by omega) ?_ | refine gL (by omega) ?_ | refine gK rfl ?_ | refine gO ?_); conv => whnf))
    refine rowAt_of (by simpa using hg) ?_
    conv => whnf
    repeat (first | refine gA ?_ | refine gB ?_ | refine gC rfl ?_ | refine gD rfl ?_ | ((first | refine gE env hN (by kernel_rfl) ?_ | refine gF ?_ | refine gG ?_ | refine gH fun hlen => ?_ | refine gI (by kernel_rfl) ?_ | refine gN rfl ?_ | refine gN (by omega) ?_ | refine gJ rfl ?_ | refine gK (by omega) ?_ | refine gL (by omega) ?_ | refine gK rfl ?_ | refine gO ?_); conv => whnf))
    cases hn : x.null with
    | true =>
      repeat (first | refine gA ?_ | refine gB ?_ | refine gC rfl ?_ | refine gD rfl ?_ | ((first | refine gE env hN (by kernel_rfl) ?_ | refine gF ?_ | refine gG ?_ | refine gH fun hlen => ?_ | refine gI (by kernel_rfl) ?_ | refine gN rfl ?_ | refine gN (by omega) ?_ | refine gJ rfl ?_ | refine gK (by omega) ?_ | refine gL (by omega) ?_ | refine gK rfl ?_ | refine gO ?_ | refine gM ?_); conv => whnf))
      exact ret0 rfl (congrArg V.bool (by rw [hkf]; simp [hn])) rfl
    | false =>
      repeat (first | refine gA ?_ | refine gB ?_ | refine gC rfl ?_ | refine gD rfl ?_ | ((first | refine gE env hN (by kernel_rfl) ?_ | refine gF ?_ | refine gG ?_ | refine gH fun hlen => ?_ | refine gI (by kernel_rfl) ?_ | refine gN rfl ?_ | refine gN (by omega) ?_ | refine gJ rfl ?_ | refine gK (by omega) ?_ | refine gL (by omega) ?_ | refine gK rfl ?_ | refine gO ?_); conv => whnf))
      refine zok_intro (by kernel_rfl) ?_
      conv => whnf
      obtain ⟨r, hr1, hr2⟩ := flags_at x.text (textsOf (c.cells.take j))
      refine ⟨r, hr1, ?_⟩
      rw [hr2]
      conv => whnf
      by_cases hm : x.text ∈ textsOf (c.cells.take j)
      · rw [decide_eq_true hm]
        repeat (first | refine gA ?_ | refine gB ?_ | refine gC rfl ?_ | refine gD rfl ?_ | ((first | refine gE env hN (by kernel_rfl) ?_ | refine gF ?_ | refine gG ?_ | refine gH fun hlen => ?_ | refine gI (by kernel_rfl) ?_ | refine gN rfl ?_ | refine gN (by omega) ?_ | refine gJ rfl ?_ | refine gK (by omega) ?_ | refine gL (by omega) ?_ | refine gK rfl ?_ | refine gO ?_ | refine gM ?_); conv => whnf))
        exact ret0 rfl (congrArg V.bool (by rw [hkf]; simp [hm])) rfl
      · rw [decide_eq_false hm]
        repeat (first | refine gA ?_ | refine gB ?_ | refine gC rfl ?_ | refine gD rfl ?_ | ((first | refine gE env hN (by kernel_rfl) ?_ | refine gF ?_ | refine gG ?_ | refine gH fun hlen => ?_ | refine gI (by kernel_rfl) ?_ | refine gN rfl ?_ | refine gN (by omega) ?_ | refine gJ rfl ?_ | refine gK (by omega) ?_ | refine gL (by omega) ?_ | refine gK rfl ?_ | refine gO ?_); conv => whnf))
        refine ⟨none, mapG_new _ hm, ?_⟩
        conv => whnf
        repeat (first | refine gA ?_ | refine gB ?_ | refine gC rfl ?_ | refine gD rfl ?_ | ((first | refine gE env hN (by kernel_rfl) ?_ | refine gF ?_ | refine gG ?_ | refine gH fun hlen => ?_ | refine gI (by kernel_rfl) ?_ | refine gN rfl ?_ | refine gN (by omega) ?_ | refine gJ rfl ?_ | refine gK (by omega) ?_ | refine gL (by omega) ?_ | refine gK rfl ?_ | refine gO ?_); conv => whnf))
        refine ⟨_, _, ?_, ⟨j + 1, by omega, by rw [hkf]; simp [hn, hm], rfl, rfl⟩, [(8, 8)], [], [], LeG.mk' rfl rfl rfl (by repeat' (first | exact trivial | exact ⟨_, .refl _, rfl⟩ | apply And.intro)) (.cons 8 rfl rfl (.refl _) ?_ .nil) rfl rfl (by rw [hK]; rfl)⟩
        · omega
        · rw [ht, mapG_snoc, List.length_append]
          simp
          rfl
  · have hje : j = c.cells.length := by omega
    rw [hje, List.drop_length] at hkf
    repeat (first | refine gA ?_ | refine gB ?_ | refine gC rfl ?_ | refine gD rfl ?_ | ((first | refine gE env hN (by kernel_rfl) ?_ | refine gF ?_ | refine gG ?_ | refine gH fun hlen => ?_ | refine gI (by kernel_rfl) ?_ | refine gN rfl ?_ | refine gN (by omega) ?_ | refine gJ rfl ?_ | refine gK (by omega) ?_ | refine gL (by omega) ?_ | refine gK rfl ?_ | refine gO ?_ | refine gM ?_); conv => whnf))
    exact ret0 rfl (congrArg V.bool (by rw [hkf]; rfl)) rfl
end Go.Sx.Sp
namespace Go.Sx.Sp
open Go Go.Sx Go.Proofs
attribute [local irreducible] GoodW
theorem keyB_new {cs : List Cell} (h : (textsOf cs).Nodup) {j : Nat} (hj : j < cs.length) : cs[j].text ∉ textsOf (cs.take j) := by
  intro hm
  obtain ⟨x, hx, e⟩ := List.mem_map.1 hm
  obtain ⟨i, hi, rfl⟩ := List.mem_iff_getElem.1 hx
  simp only [List.length_take] at hi
  rw [List.getElem_take] at e
  have h1 := (List.pairwise_iff_getElem.1 h) i j (by simp [textsOf]; omega) (by simp [textsOf]; omega) (by omega)
  simp only [textsOf, List.getElem_map] at h1
  exact h1 e
theorem textsOf_snoc {cs : List Cell} {j : Nat} (hj : j < cs.length) : textsOf (cs.take (j + 1)) = textsOf (cs.take j) ++ [cs[j].text] := by
  unfold textsOf; rw [List.take_succ_eq_append_getElem hj, List.map_append]; rfl
def ixMap (l : List Str) : List (Nat × V × V) := mapG (fun i => .int .i64 i) 0 l
theorem ixMap_snoc (l : List Str) (s : Str) : ixMap (l ++ [s]) = ixMap l ++ [(l.length, .str s, .int .i64 (l.length : Nat))] := by
  unfold ixMap; rw [mapG_snoc]; simp
set_option maxHeartbeats 2000000 in
theorem byKey_spec (t : Table) (k : Nat) (hk : k < t.cols.length) (hkey : (textsOf t.cols[k].cells).Nodup) : Spec Tryd.prog 49 [.agg t.row, .int .i64 k] [] (.omap 8 0) [(8, .map (ixMap (textsOf t.cols[k].cells)) (textsOf t.cols[k].cells).length (some []))] := by
  have hcl := colRows_len t.cols
  have hx := colRows_get hk
  generalize t.cols[k] = c at *
  have hl := cellRows_len c.cells
  refine Spec.body env Tryd.func49 rfl (by kernel_rfl) (Nat.le_of_ble_eq_true (by kernel_rfl)) (keysSub rfl) fun Γ hN hK => ?_; have hML : maxLen = 9223372036854775807 := by unfold maxLen; rfl
  repeat (first | refine gA ?_ | refine gB ?_ | refine gC rfl ?_ | refine gD rfl ?_ | ((first | refine gE env hN (by kernel_rfl) ?_ | refine gF ?_ | refine gG ?_ | refine gH fun hlen => ?_ | refine gI (by kernel_rfl) ?_ | refine gN rfl ?_ | refine gN (by omega) ?_ | refine gJ rfl ?_ | refine gK (by omega) ?_ | refine gL (by omega) ?_ | refine gK rfl ?_ | refine gO ?_); conv => whnf))
  refine rowAt_of (by simpa using hx) ?_
  conv => whnf
  repeat (first | refine gA ?_ | refine gB ?_ | refine gC rfl ?_ | refine gD rfl ?_ | ((first | refine gE env hN (by kernel_rfl) ?_ | refine gF ?_ | refine gG ?_ | refine gH fun hlen => ?_ | refine gI (by kernel_rfl) ?_ | refine gN rfl ?_ | refine gN (by omega) ?_ | refine gJ rfl ?_ | refine gK (by omega) ?_ | refine gL (by omega) ?_ | refine gK rfl ?_ | refine gO ?_); conv => whnf))
  refine W.loopG (fun n st => ∃ j : Nat, j ≤ c.cells.length ∧ n = c.cells.length - j ∧ st = ⟨[(5, .omap 8 0), (14, .sl (cellRows c.cells) false), (15, .int .i64 (cellRows c.cells).length), (16, .int .i64 j)], [(8, [.map (ixMap (textsOf (c.cells.take j))) (textsOf (c.cells.take j)).length (some [])])], [8]⟩)
    c.cells.length _ ⟨0, by omega, by omega, rfl⟩ ⟨[(8, 8)], [], [], LeG.mk' rfl rfl rfl (by repeat' (first | exact trivial | exact ⟨_, .refl _, rfl⟩ | apply And.intro)) (.cons 8 rfl rfl (.refl _) rfl .nil) rfl rfl (by rw [hK]; rfl)⟩ ?_
  rintro n st ⟨j, hj, rfl, rfl⟩
  repeat (first | refine gA ?_ | refine gB ?_ | refine gC rfl ?_ | refine gD rfl ?_ | ((first | refine gE env hN (by kernel_rfl) ?_ | refine gF ?_ | refine gG ?_ | refine gH fun hlen => ?_ | refine gI (by kernel_rfl) ?_ | refine gN rfl ?_ | refine gN (by omega) ?_ | refine gJ rfl ?_ | refine gK (by omega) ?_ | refine gL (by omega) ?_ | refine gK rfl ?_ | refine gO ?_); conv => whnf))
  refine boolRes_split (fun hb => ?_) (fun hb => ?_) <;> conv => whnf
  · have hlt : j < c.cells.length := by omega
    have hg := cellRows_get hlt
    have ht := textsOf_snoc hlt
    have hnew := keyB_new hkey hlt
    have hjl : (textsOf (c.cells.take j)).length = j := by simp [textsOf]; omega
    generalize c.cells[j] = x at *
    repeat (first | refine gA ?_ | refine gB ?_ | refine gC rfl ?_ | refine gD rfl ?_ | ((first | refine gE env hN (by kernel_rfl) ?_ | refine gF ?_ | refine gG ?_ | refine gH fun hlen => ?_ | refine gI (by kernel_rfl) ?_ | refine gN rfl ?_ | refine gN (by omega) ?_ | refine gJ rfl ?_ | refine gK (by omega) ?_ | refine gL (by omega) ?_ | refine gK rfl ?_ | refine gO ?_); conv => whnf))
    refine rowAt_of (by simpa using hg) ?_
    conv => whnf
    repeat (first | refine gA ?_ | refine gB ?_ | refine gC rfl ?_ | refine gD rfl ?_ | ((first | refine gE env hN (by kernel_rfl) ?_ | refine gF ?_ | refine gG ?_ | refine gH fun hlen => ?_ | refine gI (by kernel_rfl) ?_ | refine gN rfl ?_ | refine gN (by omega) ?_ | refine gJ rfl ?_ | refine gK (by omega) ?_ | refine gL (by omega) ?_ | refine gK rfl ?_ | refine gO ?_); conv => whnf))
    refine ⟨none, mapG_new _ hnew, ?_⟩
    conv => whnf
    repeat (first | refine gA ?_ | refine gB ?_ | refine gC rfl ?_ | refine gD rfl ?_ | ((first | refine gE env hN (by kernel_rfl) ?_ | refine gF ?_ | refine gG ?_ | refine gH fun hlen => ?_ | refine gI (by kernel_rfl) ?_ | refine gN rfl ?_ | refine gN (by omega) ?_ | refine gJ rfl ?_ | refine gK (by omega) ?_ | refine gL (by omega) ?_ | refine gK rfl ?_ | refine gO ?_); conv => whnf))
    refine ⟨_, _, ?_, ⟨j + 1, by omega, rfl, rfl⟩, [(8, 8)], [], [], LeG.mk' rfl rfl rfl (by repeat' (first | exact trivial | exact ⟨_, .refl _, rfl⟩ | apply And.intro)) (.cons 8 rfl rfl (.refl _) ?_ .nil) rfl rfl (by rw [hK]; rfl)⟩
    · omega
    · rw [ht, ixMap_snoc, List.length_append, hjl]
      rfl
  · have hje : j = c.cells.length := by omega
    rw [hje, List.take_length]
    repeat (first | refine gA ?_ | refine gB ?_ | refine gC rfl ?_ | refine gD rfl ?_ | ((first | refine gE env hN (by kernel_rfl) ?_ | refine gF ?_ | refine gG ?_ | refine gH fun hlen => ?_ | refine gI (by kernel_rfl) ?_ | refine gN rfl ?_ | refine gN (by omega) ?_ | refine gJ rfl ?_ | refine gK (by omega) ?_ | refine gL (by omega) ?_ | refine gK rfl ?_ | refine gO ?_); conv => whnf))
    (refine gM ?_; conv => whnf)
    exact retH rfl (.refl _) rfl rfl rfl ⟨rfl, rfl, trivial⟩
def cellAt (c : Column) (i : Nat) : Cell := c.cells.getD i ⟨false, []⟩
def rowM (t : Table) (i : Nat) : List Cell := t.cols.map fun c => cellAt c i
theorem rowM_len (t : Table) (i : Nat) : (rowM t i).length = t.cols.length := by simp [rowM]
set_option maxHeartbeats 2000000 in
theorem row_spec (t : Table) (i : Nat) (hi : ∀ c ∈ t.cols, i < c.cells.length) (hn : t.cols.length ≤ 4294967295) : Spec Tryd.prog 51 [.agg t.row, .int .i64 i] [] (.sl (cellRows (rowM t i)) false) [] := by
  have hcl := colRows_len t.cols
  refine Spec.body env Tryd.func51 rfl (by kernel_rfl) (Nat.le_of_ble_eq_true (by kernel_rfl)) (keysSub rfl) fun Γ hN hK => ?_; have hML : maxLen = 9223372036854775807 := by unfold maxLen; rfl
  repeat (first | refine gA ?_ | refine gB ?_ | refine gC rfl ?_ | refine gD rfl ?_ | ((first | refine gE env hN (by kernel_rfl) ?_ | refine gF ?_ | refine gG ?_ | refine gH fun hlen => ?_ | refine gI (by kernel_rfl) ?_ | refine gN rfl ?_ | refine gN (by omega) ?_ | refine gJ rfl ?_ | refine gK (by omega) ?_ | refine gL (by omega) ?_ | refine gK rfl ?_ | refine gO ?_); conv => whnf))
  refine W.ownNil 5 51 2 rfl rfl ?_
  refine W.loopG (fun n st => ∃ j : Nat, j ≤ t.cols.length ∧ n = t.cols.length - j ∧ st = ⟨[(1, .int .i64 i), (5, .osl 51 0 0 j j), (9, .sl (colRows t.cols) false), (10, .int .i64 (colRows t.cols).length), (11, .int .i64 j)], [(51, [.rows 2 (cellRows ((rowM t i).take j)) (some [])])], [51]⟩)
    t.cols.length _ ⟨0, by omega, by omega, rfl⟩ ⟨[(51, 51)], [], [], LeG.mk' rfl rfl rfl (by repeat' (first | exact trivial | exact ⟨_, .refl _, rfl⟩ | apply And.intro)) (.cons 51 rfl rfl (.refl _) rfl .nil) rfl rfl (by rw [hK]; rfl)⟩ ?_
  rintro n st ⟨j, hj, rfl, rfl⟩
  repeat (first | refine gA ?_ | refine gB ?_ | refine gC rfl ?_ | refine gD rfl ?_ | ((first | refine gE env hN (by kernel_rfl) ?_ | refine gF ?_ | refine gG ?_ | refine gH fun hlen => ?_ | refine gI (by kernel_rfl) ?_ | refine gN rfl ?_ | refine gN (by omega) ?_ | refine gJ rfl ?_ | refine gK (by omega) ?_ | refine gL (by omega) ?_ | refine gK rfl ?_ | refine gO ?_); conv => whnf))
  refine boolRes_split (fun hb => ?_) (fun hb => ?_) <;> conv => whnf
  · have hlt : j < t.cols.length := by omega
    have hg := colRows_get hlt
    have hc := hi _ (List.getElem_mem hlt)
    have hsn : (rowM t i).take (j + 1) = (rowM t i).take j ++ [cellAt t.cols[j] i] := by
      rw [List.take_succ_eq_append_getElem (by rw [rowM_len]; exact hlt)]
      simp [rowM]
    have hjl : (cellRows ((rowM t i).take j)).length = j := by rw [cellRows_len, List.length_take, rowM_len]; omega
    have hca : cellAt t.cols[j] i = t.cols[j].cells[i] := by simp [cellAt, hc]
    rw [hca] at hsn
    generalize t.cols[j] = c at *
    have hgc := cellRows_get hc
    have hl := cellRows_len c.cells
    generalize c.cells[i] = x at *
    repeat (first | refine gA ?_ | refine gB ?_ | refine gC rfl ?_ | refine gD rfl ?_ | ((first | refine gE env hN (by kernel_rfl) ?_ | refine gF ?_ | refine gG ?_ | refine gH fun hlen => ?_ | refine gI (by kernel_rfl) ?_ | refine gN rfl ?_ | refine gN (by omega) ?_ | refine gJ rfl ?_ | refine gK (by omega) ?_ | refine gL (by omega) ?_ | refine gK rfl ?_ | refine gO ?_); conv => whnf))
    refine rowAt_of (by simpa using hg) ?_
    conv => whnf
    repeat (first | refine gA ?_ | refine gB ?_ | refine gC rfl ?_ | refine gD rfl ?_ | ((first | refine gE env hN (by kernel_rfl) ?_ | refine gF ?_ | refine gG ?_ | refine gH fun hlen => ?_ | refine gI (by kernel_rfl) ?_ | refine gN rfl ?_ | refine gN (by omega) ?_ | refine gJ rfl ?_ | refine gK (by omega) ?_ | refine gL (by omega) ?_ | refine gK rfl ?_ | refine gO ?_); conv => whnf))
    refine rowAt_of (by simpa using hgc) ?_
    conv => whnf
    repeat (first | refine gA ?_ | refine gB ?_ | refine gC rfl ?_ | refine gD rfl ?_ | ((first | refine gE env hN (by kernel_rfl) ?_ | refine gF ?_ | refine gG ?_ | refine gH fun hlen => ?_ | refine gI (by kernel_rfl) ?_ | refine gN rfl ?_ | refine gN (by omega) ?_ | refine gJ rfl ?_ | refine gK (by omega) ?_ | refine gL (by omega) ?_ | refine gK rfl ?_ | refine gO ?_); conv => whnf))
    refine ⟨⟨rowsSz_cons rfl rowsSz_nil, hjl.symm⟩, fitN (n := j + 1) (b := 24) (by omega) (by omega), .inl ⟨rfl, rfl, ?_⟩⟩
    conv => whnf
    repeat (first | refine gA ?_ | refine gB ?_ | refine gC rfl ?_ | refine gD rfl ?_ | ((first | refine gE env hN (by kernel_rfl) ?_ | refine gF ?_ | refine gG ?_ | refine gH fun hlen => ?_ | refine gI (by kernel_rfl) ?_ | refine gN rfl ?_ | refine gN (by omega) ?_ | refine gJ rfl ?_ | refine gK (by omega) ?_ | refine gL (by omega) ?_ | refine gK rfl ?_ | refine gO ?_); conv => whnf))
    refine ⟨_, _, ?_, ⟨j + 1, by omega, rfl, rfl⟩, [(51, 51)], [], [], LeG.mk' rfl rfl rfl (by repeat' (first | exact trivial | exact ⟨_, .refl _, rfl⟩ | apply And.intro)) (.cons 51 rfl rfl (.refl _) ?_ .nil) rfl rfl (by rw [hK]; rfl)⟩
    · omega
    · rw [hsn]; simp only [cellRows, List.map_append]; rfl
  · have hje : j = t.cols.length := by omega
    have htk : (rowM t i).take j = rowM t i := List.take_of_length_le (by rw [rowM_len]; omega)
    have hjl : j = (cellRows (rowM t i)).length := by rw [cellRows_len, rowM_len]; omega
    rw [htk]
    refine W.leG (mp := []) (bo := [51]) (st' := ⟨[(5, .sl (cellRows (rowM t i)) false), (12, .bool false)], [], []⟩) (LeG.mk' rfl rfl rfl ⟨⟨_, Lent.whole rfl rfl hjl rfl (.inl rfl), rfl⟩, ⟨_, .refl _, rfl⟩, trivial⟩ .nil rfl rfl (by rw [hK]; rfl)) ?_
    repeat (first | refine gA ?_ | refine gB ?_ | refine gC rfl ?_ | refine gD rfl ?_ | ((first | refine gE env hN (by kernel_rfl) ?_ | refine gF ?_ | refine gG ?_ | refine gH fun hlen => ?_ | refine gI (by kernel_rfl) ?_ | refine gN rfl ?_ | refine gN (by omega) ?_ | refine gJ rfl ?_ | refine gK (by omega) ?_ | refine gL (by omega) ?_ | refine gK rfl ?_ | refine gO ?_ | refine gM ?_); conv => whnf))
    exact ret0 rfl rfl rfl
set_option maxHeartbeats 2000000 in
theorem equalCells_spec (a b : List Cell) : Spec Tryd.prog 50 [.sl (cellRows a) false, .sl (cellRows b) false] [] (.bool (decide (a = b))) [] := by
  have hla := cellRows_len a
  have hlb := cellRows_len b
  refine Spec.body env Tryd.func50 rfl (by kernel_rfl) (Nat.le_of_ble_eq_true (by kernel_rfl)) (keysSub rfl) fun Γ hN hK => ?_; have hML : maxLen = 9223372036854775807 := by unfold maxLen; rfl
  repeat (first | refine gA ?_ | refine gB ?_ | refine gC rfl ?_ | refine gD rfl ?_ | ((first | refine gE env hN (by kernel_rfl) ?_ | refine gF ?_ | refine gG ?_ | refine gH fun hlen => ?_ | refine gI (by kernel_rfl) ?_ | refine gN rfl ?_ | refine gN (by omega) ?_ | refine gJ rfl ?_ | refine gK (by omega) ?_ | refine gL (by omega) ?_ | refine gK rfl ?_ | refine gO ?_); conv => whnf))
  refine boolRes_split (fun hb => ?_) (fun hb => ?_) <;> conv => whnf
  · repeat (first | refine gA ?_ | refine gB ?_ | refine gC rfl ?_ | refine gD rfl ?_ | ((first | refine gE env hN (by kernel_rfl) ?_ | refine gF ?_ | refine gG ?_ | refine gH fun hlen => ?_ | refine gI (by kernel_rfl) ?_ | refine gN rfl ?_ | refine gN (by omega) ?_ | refine gJ rfl ?_ | refine gK (by omega) ?_ | refine gL (by omega) ?_ | refine gK rfl ?_ | refine gO ?_ | refine gM ?_); conv => whnf))
    exact ret0 rfl (congrArg V.bool (by rw [decide_eq_false]; intro h; exact hb (by rw [h]))) rfl
  have hL : a.length = b.length := by omega
  repeat (first | refine gA ?_ | refine gB ?_ | refine gC rfl ?_ | refine gD rfl ?_ | ((first | refine gE env hN (by kernel_rfl) ?_ | refine gF ?_ | refine gG ?_ | refine gH fun hlen => ?_ | refine gI (by kernel_rfl) ?_ | refine gN rfl ?_ | refine gN (by omega) ?_ | refine gJ rfl ?_ | refine gK (by omega) ?_ | refine gL (by omega) ?_ | refine gK rfl ?_ | refine gO ?_); conv => whnf))
  refine W.loopG (fun n st => ∃ k : Nat, k ≤ a.length ∧ a.take k = b.take k ∧ n = a.length - k ∧ st = ⟨[(0, .sl (cellRows a) false), (1, .sl (cellRows b) false), (12, .int .i64 (cellRows a).length), (13, .int .i64 k)], [], []⟩)
    a.length _ ⟨0, by omega, by simp, by omega, rfl⟩ ⟨[], [], [], LeG.mk' rfl rfl rfl (by repeat' (first | exact trivial | exact ⟨_, .refl _, rfl⟩ | apply And.intro)) .nil rfl rfl (by rw [hK]; rfl)⟩ ?_
  rintro n st ⟨k, hk, htk, rfl, rfl⟩
  repeat (first | refine gA ?_ | refine gB ?_ | refine gC rfl ?_ | refine gD rfl ?_ | ((first | refine gE env hN (by kernel_rfl) ?_ | refine gF ?_ | refine gG ?_ | refine gH fun hlen => ?_ | refine gI (by kernel_rfl) ?_ | refine gN rfl ?_ | refine gN (by omega) ?_ | refine gJ rfl ?_ | refine gK (by omega) ?_ | refine gL (by omega) ?_ | refine gK rfl ?_ | refine gO ?_); conv => whnf))
  refine boolRes_split (fun hb => ?_) (fun hb => ?_) <;> conv => whnf
  · have hlt : k < a.length := by omega
    have hltb : k < b.length := by omega
    repeat (first | refine gA ?_ | refine gB ?_ | refine gC rfl ?_ | refine gD rfl ?_ | ((first | refine gE env hN (by kernel_rfl) ?_ | refine gF ?_ | refine gG ?_ | refine gH fun hlen => ?_ | refine gI (by kernel_rfl) ?_ | refine gN rfl ?_ | refine gN (by omega) ?_ | refine gJ rfl ?_ | refine gK (by omega) ?_ | refine gL (by omega) ?_ | refine gK rfl ?_ | refine gO ?_); conv => whnf))
    refine rowAt_of (by simpa using cellRows_get hlt) ?_
    conv => whnf
    repeat (first | refine gA ?_ | refine gB ?_ | refine gC rfl ?_ | refine gD rfl ?_ | ((first | refine gE env hN (by kernel_rfl) ?_ | refine gF ?_ | refine gG ?_ | refine gH fun hlen => ?_ | refine gI (by kernel_rfl) ?_ | refine gN rfl ?_ | refine gN (by omega) ?_ | refine gJ rfl ?_ | refine gK (by omega) ?_ | refine gL (by omega) ?_ | refine gK rfl ?_ | refine gO ?_); conv => whnf))
    refine rowAt_of (by simpa using cellRows_get hltb) ?_
    conv => whnf
    repeat (first | refine gA ?_ | refine gB ?_ | refine gC rfl ?_ | refine gD rfl ?_ | ((first | refine gE env hN (by kernel_rfl) ?_ | refine gF ?_ | refine gG ?_ | refine gH fun hlen => ?_ | refine gI (by kernel_rfl) ?_ | refine gN rfl ?_ | refine gN (by omega) ?_ | refine gJ rfl ?_ | refine gK (by omega) ?_ | refine gL (by omega) ?_ | refine gK rfl ?_ | refine gO ?_); conv => whnf))
    refine ⟨_, _, _, cells_ne rfl a[k] b[k] rfl rfl (by kernel_rfl), ?_⟩
    by_cases hc : a[k] = b[k]
    · rw [decide_eq_true hc]
      conv => whnf
      repeat (first | refine gA ?_ | refine gB ?_ | refine gC rfl ?_ | refine gD rfl ?_ | ((first | refine gE env hN (by kernel_rfl) ?_ | refine gF ?_ | refine gG ?_ | refine gH fun hlen => ?_ | refine gI (by kernel_rfl) ?_ | refine gN rfl ?_ | refine gN (by omega) ?_ | refine gJ rfl ?_ | refine gK (by omega) ?_ | refine gL (by omega) ?_ | refine gK rfl ?_ | refine gO ?_); conv => whnf))
      refine ⟨_, _, ?_, ⟨k + 1, by omega, take_snoc htk hlt hltb hc, rfl, rfl⟩, ⟨[], [], [], LeG.mk' rfl rfl rfl (by repeat' (first | exact trivial | exact ⟨_, .refl _, rfl⟩ | apply And.intro)) .nil rfl rfl (by rw [hK]; rfl)⟩⟩
      omega
    · rw [decide_eq_false hc]
      conv => whnf
      repeat (first | refine gA ?_ | refine gB ?_ | refine gC rfl ?_ | refine gD rfl ?_ | ((first | refine gE env hN (by kernel_rfl) ?_ | refine gF ?_ | refine gG ?_ | refine gH fun hlen => ?_ | refine gI (by kernel_rfl) ?_ | refine gN rfl ?_ | refine gN (by omega) ?_ | refine gJ rfl ?_ | refine gK (by omega) ?_ | refine gL (by omega) ?_ | refine gK rfl ?_ | refine gO ?_ | refine gM ?_); conv => whnf))
      exact ret0 rfl (congrArg V.bool (by
        rw [decide_eq_false]
        intro h
        exact hc (by simp only [h]))) rfl
  · have hke : k = a.length := by omega
    rw [hke, List.take_length, hL, List.take_length] at htk
    repeat (first | refine gA ?_ | refine gB ?_ | refine gC rfl ?_ | refine gD rfl ?_ | ((first | refine gE env hN (by kernel_rfl) ?_ | refine gF ?_ | refine gG ?_ | refine gH fun hlen => ?_ | refine gI (by kernel_rfl) ?_ | refine gN rfl ?_ | refine gN (by omega) ?_ | refine gJ rfl ?_ | refine gK (by omega) ?_ | refine gL (by omega) ?_ | refine gK rfl ?_ | refine gO ?_ | refine gM ?_); conv => whnf))
    exact ret0 rfl (congrArg V.bool (by rw [decide_eq_true]; exact htk)) rfl
def namesOf (l : List Column) : List Str := l.map Column.name
set_option maxHeartbeats 2000000 in
theorem sameName_spec (a b : Column) : Spec Tryd.prog 46 [.agg a.row, .agg b.row] [] (.bool (decide (a.name = b.name))) [] := by
  refine Spec.body env Tryd.func46 rfl (by kernel_rfl) (Nat.le_of_ble_eq_true (by kernel_rfl)) (keysSub rfl) fun Γ hN hK => ?_; have hML : maxLen = 9223372036854775807 := by unfold maxLen; rfl
  ((repeat (first | refine gA ?_ | refine gB ?_ | refine gC rfl ?_ | refine gD rfl ?_ | ((first | refine gE env hN (by kernel_rfl) ?_ | refine gF ?_ | refine gG ?_ | refine gH fun hlen => ?_ | refine gI (by kernel_rfl) ?_ | refine gN rfl ?_ | refine gN (by omega) ?_ | refine gJ rfl ?_ | refine gK (by omega) ?_ | refine gL (by omega) ?_ | refine gK rfl ?_ | refine gO ?_ | refine gM ?_); conv => whnf))); first | (exact ret0 rfl (congrArg V.bool (by simp; omega)) rfl) | ((refine boolRes_split (fun hb => ?_) (fun hb => ?_) <;> conv => whnf) <;> ((repeat (first | refine gA ?_ | refine gB ?_ | refine gC rfl ?_ | refine gD rfl ?_ | ((first | refine gE env hN (by kernel_rfl) ?_ | refine gF ?_ | refine gG ?_ | refine gH fun hlen => ?_ | refine gI (by kernel_rfl) ?_ | refine gN rfl ?_ | refine gN (by omega) ?_ | refine gJ rfl ?_ | refine gK (by omega) ?_ | refine gL (by omega) ?_ | refine gK rfl ?_ | refine gO ?_ | refine gM ?_); conv => whnf))); first | (exact ret0 rfl (congrArg V.bool (by simp; omega)) rfl) | ((refine boolRes_split (fun hb => ?_) (fun hb => ?_) <;> conv => whnf) <;> ((repeat (first | refine gA ?_ | refine gB ?_ | refine gC rfl ?_ | refine gD rfl ?_ | ((first | refine gE env hN (by kernel_rfl) ?_ | refine gF ?_ | refine gG ?_ | refine gH fun hlen => ?_ | refine gI (by kernel_rfl) ?_ | refine gN rfl ?_ | refine gN (by omega) ?_ | refine gJ rfl ?_ | refine gK (by omega) ?_ | refine gL (by omega) ?_ | refine gK rfl ?_ | refine gO ?_ | refine gM ?_); conv => whnf))); first | (exact ret0 rfl (congrArg V.bool (by simp; omega)) rfl) | ((refine boolRes_split (fun hb => ?_) (fun hb => ?_) <;> conv => whnf) <;> ((repeat (first | refine gA ?_ | refine gB ?_ | refine gC rfl ?_ | refine gD rfl ?_ | ((first | refine gE env hN (by kernel_rfl) ?_ | refine gF ?_ | refine gG ?_ | refine gH fun hlen => ?_ | refine gI (by kernel_rfl) ?_ | refine gN rfl ?_ | refine gN (by omega) ?_ | refine gJ rfl ?_ | refine gK (by omega) ?_ | refine gL (by omega) ?_ | refine gK rfl ?_ | refine gO ?_ | refine gM ?_); conv => whnf))); first | (exact ret0 rfl (congrArg V.bool (by simp; omega)) rfl) | ((refine boolRes_split (fun hb => ?_) (fun hb => ?_) <;> conv => whnf) <;> ((repeat (first | refine gA ?_ | refine gB ?_ | refine gC rfl ?_ | refine gD rfl ?_ | ((first | refine gE env hN (by kernel_rfl) ?_ | refine gF ?_ | refine gG ?_ | refine gH fun hlen => ?_ | refine gI (by kernel_rfl) ?_ | refine gN rfl ?_ | refine gN (by omega) ?_ | refine gJ rfl ?_ | refine gK (by omega) ?_ | refine gL (by omega) ?_ | refine gK rfl ?_ | refine gO ?_ | refine gM ?_); conv => whnf))); first | (exact ret0 rfl (congrArg V.bool (by simp; omega)) rfl) | ((refine boolRes_split (fun hb => ?_) (fun hb => ?_) <;> conv => whnf) <;> ((repeat (first | refine gA ?_ | refine gB ?_ | refine gC rfl ?_ | refine gD rfl ?_ | ((first | refine gE env hN (by kernel_rfl) ?_ | refine gF ?_ | refine gG ?_ | refine gH fun hlen => ?_ | refine gI (by kernel_rfl) ?_ | refine gN rfl ?_ | refine gN (by omega) ?_ | refine gJ rfl ?_ | refine gK (by omega) ?_ | refine gL (by omega) ?_ | refine gK rfl ?_ | refine gO ?_ | refine gM ?_); conv => whnf))); first | (exact ret0 rfl (congrArg V.bool (by simp; omega)) rfl) | ((refine boolRes_split (fun hb => ?_) (fun hb => ?_) <;> conv => whnf) <;> ((repeat (first | refine gA ?_ | refine gB ?_ | refine gC rfl ?_ | refine gD rfl ?_ | ((first | refine gE env hN (by kernel_rfl) ?_ | refine gF ?_ | refine gG ?_ | refine gH fun hlen => ?_ | refine gI (by kernel_rfl) ?_ | refine gN rfl ?_ | refine gN (by omega) ?_ | refine gJ rfl ?_ | refine gK (by omega) ?_ | refine gL (by omega) ?_ | refine gK rfl ?_ | refine gO ?_ | refine gM ?_); conv => whnf))); first | (exact ret0 rfl (congrArg V.bool (by simp; omega)) rfl) | ((refine boolRes_split (fun hb => ?_) (fun hb => ?_) <;> conv => whnf) <;> ((repeat (first | refine gA ?_ | refine gB ?_ | refine gC rfl ?_ | refine gD rfl ?_ | ((first | refine gE env hN (by kernel_rfl) ?_ | refine gF ?_ | refine gG ?_ | refine gH fun hlen => ?_ | refine gI (by kernel_rfl) ?_ | refine gN rfl ?_ | refine gN (by omega) ?_ | refine gJ rfl ?_ | refine gK (by omega) ?_ | refine gL (by omega) ?_ | refine gK rfl ?_ | refine gO ?_ | refine gM ?_); conv => whnf))); first | (exact ret0 rfl (congrArg V.bool (by simp; omega)) rfl) | ((refine boolRes_split (fun hb => ?_) (fun hb => ?_) <;> conv => whnf) <;> ((repeat (first | refine gA ?_ | refine gB ?_ | refine gC rfl ?_ | refine gD rfl ?_ | ((first | refine gE env hN (by kernel_rfl) ?_ | refine gF ?_ | refine gG ?_ | refine gH fun hlen => ?_ | refine gI (by kernel_rfl) ?_ | refine gN rfl ?_ | refine gN (by omega) ?_ | refine gJ rfl ?_ | refine gK (by omega) ?_ | refine gL (by omega) ?_ | refine gK rfl ?_ | refine gO ?_ | refine gM ?_); conv => whnf))); first | (exact ret0 rfl (congrArg V.bool (by simp; omega)) rfl) | ((refine boolRes_split (fun hb => ?_) (fun hb => ?_) <;> conv => whnf) <;> ((repeat (first | refine gA ?_ | refine gB ?_ | refine gC rfl ?_ | refine gD rfl ?_ | ((first | refine gE env hN (by kernel_rfl) ?_ | refine gF ?_ | refine gG ?_ | refine gH fun hlen => ?_ | refine gI (by kernel_rfl) ?_ | refine gN rfl ?_ | refine gN (by omega) ?_ | refine gJ rfl ?_ | refine gK (by omega) ?_ | refine gL (by omega) ?_ | refine gK rfl ?_ | refine gO ?_ | refine gM ?_); conv => whnf))); first | (exact ret0 rfl (congrArg V.bool (by simp; omega)) rfl) | ((refine boolRes_split (fun hb => ?_) (fun hb => ?_) <;> conv => whnf) <;> ((repeat (first | refine gA ?_ | refine gB ?_ | refine gC rfl ?_ | refine gD rfl ?_ | ((first | refine gE env hN (by kernel_rfl) ?_ | refine gF ?_ | refine gG ?_ | refine gH fun hlen => ?_ | refine gI (by kernel_rfl) ?_ | refine gN rfl ?_ | refine gN (by omega) ?_ | refine gJ rfl ?_ | refine gK (by omega) ?_ | refine gL (by omega) ?_ | refine gK rfl ?_ | refine gO ?_ | refine gM ?_); conv => whnf))); first | (exact ret0 rfl (congrArg V.bool (by simp; omega)) rfl) | ((refine boolRes_split (fun hb => ?_) (fun hb => ?_) <;> conv => whnf) <;> ((repeat (first | refine gA ?_ | refine gB ?_ | refine gC rfl ?_ | refine gD rfl ?_ | ((first | refine gE env hN (by kernel_rfl) ?_ | refine gF ?_ | refine gG ?_ | refine gH fun hlen => ?_ | refine gI (by kernel_rfl) ?_ | refine gN rfl ?_ | refine gN (by omega) ?_ | refine gJ rfl ?_ | refine gK (by omega) ?_ | refine gL (by omega) ?_ | refine gK rfl ?_ | refine gO ?_ | refine gM ?_); conv => whnf))); first | (exact ret0 rfl (congrArg V.bool (by simp; omega)) rfl) | ((refine boolRes_split (fun hb => ?_) (fun hb => ?_) <;> conv => whnf) <;> fail))))))))))))))))))))))))
set_option maxHeartbeats 2000000 in
theorem equalNames_spec (a b : List Column) : Spec Tryd.prog 45 [.sl (colRows a) false, .sl (colRows b) false, .fn 46 []] [] (.bool (decide (namesOf a = namesOf b))) [] := by
  have hla := colRows_len a
  have hlb := colRows_len b
  refine Spec.body env Tryd.func45 rfl (by kernel_rfl) (Nat.le_of_ble_eq_true (by kernel_rfl)) (keysSub rfl) fun Γ hN hK => ?_; have hML : maxLen = 9223372036854775807 := by unfold maxLen; rfl
  repeat (first | refine gA ?_ | refine gB ?_ | refine gC rfl ?_ | refine gD rfl ?_ | ((first | refine gE env hN (by kernel_rfl) ?_ | refine gF ?_ | refine gG ?_ | refine gH fun hlen => ?_ | refine gI (by kernel_rfl) ?_ | refine gN rfl ?_ | refine gN (by omega) ?_ | refine gJ rfl ?_ | refine gK (by omega) ?_ | refine gL (by omega) ?_ | refine gK rfl ?_ | refine gO ?_); conv => whnf))
  refine boolRes_split (fun hb => ?_) (fun hb => ?_) <;> conv => whnf
  · repeat (first | refine gA ?_ | refine gB ?_ | refine gC rfl ?_ | refine gD rfl ?_ | ((first | refine gE env hN (by kernel_rfl) ?_ | refine gF ?_ | refine gG ?_ | refine gH fun hlen => ?_ | refine gI (by kernel_rfl) ?_ | refine gN rfl ?_ | refine gN (by omega) ?_ | refine gJ rfl ?_ | refine gK (by omega) ?_ | refine gL (by omega) ?_ | refine gK rfl ?_ | refine gO ?_ | refine gM ?_); conv => whnf))
    exact ret0 rfl (congrArg V.bool (by rw [decide_eq_false]; intro h; have := congrArg List.length h; simp [namesOf] at this; omega)) rfl
  have hL : a.length = b.length := by omega
  repeat (first | refine gA ?_ | refine gB ?_ | refine gC rfl ?_ | refine gD rfl ?_ | ((first | refine gE env hN (by kernel_rfl) ?_ | refine gF ?_ | refine gG ?_ | refine gH fun hlen => ?_ | refine gI (by kernel_rfl) ?_ | refine gN rfl ?_ | refine gN (by omega) ?_ | refine gJ rfl ?_ | refine gK (by omega) ?_ | refine gL (by omega) ?_ | refine gK rfl ?_ | refine gO ?_); conv => whnf))
  refine W.loopG (fun n st => ∃ k : Nat, k ≤ a.length ∧ (namesOf a).take k = (namesOf b).take k ∧ n = a.length - k ∧ st = ⟨[(1, .sl (colRows b) false), (2, .fn 46 []), (15, .sl (colRows a) false), (16, .int .i64 (colRows a).length), (17, .int .i64 k)], [], []⟩)
    a.length _ ⟨0, by omega, by simp, by omega, rfl⟩ ⟨[], [], [], LeG.mk' rfl rfl rfl (by repeat' (first | exact trivial | exact ⟨_, .refl _, rfl⟩ | apply And.intro)) .nil rfl rfl (by rw [hK]; rfl)⟩ ?_
  rintro n st ⟨k, hk, htk, rfl, rfl⟩
  repeat (first | refine gA ?_ | refine gB ?_ | refine gC rfl ?_ | refine gD rfl ?_ | ((first | refine gE env hN (by kernel_rfl) ?_ | refine gF ?_ | refine gG ?_ | refine gH fun hlen => ?_ | refine gI (by kernel_rfl) ?_ | refine gN rfl ?_ | refine gN (by omega) ?_ | refine gJ rfl ?_ | refine gK (by omega) ?_ | refine gL (by omega) ?_ | refine gK rfl ?_ | refine gO ?_); conv => whnf))
  refine boolRes_split (fun hb => ?_) (fun hb => ?_) <;> conv => whnf
  · have hlt : k < a.length := by omega
    have hltb : k < b.length := by omega
    have sp := sameName_spec a[k] b[k]
    repeat (first | refine gA ?_ | refine gB ?_ | refine gC rfl ?_ | refine gD rfl ?_ | ((first | refine gE env hN (by kernel_rfl) ?_ | refine gF ?_ | refine gG ?_ | refine gH fun hlen => ?_ | refine gI (by kernel_rfl) ?_ | refine gN rfl ?_ | refine gN (by omega) ?_ | refine gJ rfl ?_ | refine gK (by omega) ?_ | refine gL (by omega) ?_ | refine gK rfl ?_ | refine gO ?_); conv => whnf))
    refine rowAt_of (by simpa using colRows_get hlt) ?_
    conv => whnf
    repeat (first | refine gA ?_ | refine gB ?_ | refine gC rfl ?_ | refine gD rfl ?_ | ((first | refine gE env hN (by kernel_rfl) ?_ | refine gF ?_ | refine gG ?_ | refine gH fun hlen => ?_ | refine gI (by kernel_rfl) ?_ | refine gN rfl ?_ | refine gN (by omega) ?_ | refine gJ rfl ?_ | refine gK (by omega) ?_ | refine gL (by omega) ?_ | refine gK rfl ?_ | refine gO ?_); conv => whnf))
    refine rowAt_of (by simpa using colRows_get hltb) ?_
    conv => whnf
    repeat (first | refine gA ?_ | refine gB ?_ | refine gC rfl ?_ | refine gD rfl ?_ | ((first | refine gE env hN (by kernel_rfl) ?_ | refine gF ?_ | refine gG ?_ | refine gH fun hlen => ?_ | refine gI (by kernel_rfl) ?_ | refine gN rfl ?_ | refine gN (by omega) ?_ | refine gJ rfl ?_ | refine gK (by omega) ?_ | refine gL (by omega) ?_ | refine gK rfl ?_ | refine gO ?_); conv => whnf))
    (refine ⟨_, _, _, callG [] [] [] rfl rfl rfl (by kernel_rfl) (sp) (by repeat' (first | exact trivial | exact Lent.refl _ | exact Lent.norm _ | apply And.intro)) rfl ⟨rfl, rfl, rfl, rfl, rfl, trivial, rfl, rfl⟩, ?_⟩; conv => whnf)
    by_cases hc : a[k].name = b[k].name
    · rw [decide_eq_true hc]
      conv => whnf
      repeat (first | refine gA ?_ | refine gB ?_ | refine gC rfl ?_ | refine gD rfl ?_ | ((first | refine gE env hN (by kernel_rfl) ?_ | refine gF ?_ | refine gG ?_ | refine gH fun hlen => ?_ | refine gI (by kernel_rfl) ?_ | refine gN rfl ?_ | refine gN (by omega) ?_ | refine gJ rfl ?_ | refine gK (by omega) ?_ | refine gL (by omega) ?_ | refine gK rfl ?_ | refine gO ?_); conv => whnf))
      refine ⟨_, _, ?_, ⟨k + 1, by omega, take_snoc htk (by simp [namesOf]; omega) (by simp [namesOf]; omega) (by simpa [namesOf] using hc), rfl, rfl⟩, ⟨[], [], [], LeG.mk' rfl rfl rfl (by repeat' (first | exact trivial | exact ⟨_, .refl _, rfl⟩ | apply And.intro)) .nil rfl rfl (by rw [hK]; rfl)⟩⟩
      omega
    · rw [decide_eq_false hc]
      conv => whnf
      repeat (first | refine gA ?_ | refine gB ?_ | refine gC rfl ?_ | refine gD rfl ?_ | ((first | refine gE env hN (by kernel_rfl) ?_ | refine gF ?_ | refine gG ?_ | refine gH fun hlen => ?_ | refine gI (by kernel_rfl) ?_ | refine gN rfl ?_ | refine gN (by omega) ?_ | refine gJ rfl ?_ | refine gK (by omega) ?_ | refine gL (by omega) ?_ | refine gK rfl ?_ | refine gO ?_ | refine gM ?_); conv => whnf))
      exact ret0 rfl (congrArg V.bool (by
        rw [decide_eq_false]
        intro h
        refine hc ?_
        have h1 : (namesOf a)[k]? = (namesOf b)[k]? := by rw [h]
        simpa [namesOf, hlt, hltb] using h1)) rfl
  · have hke : k = a.length := by omega
    have e1 : (namesOf a).take k = namesOf a := List.take_of_length_le (by simp [namesOf]; omega)
    have e2 : (namesOf b).take k = namesOf b := List.take_of_length_le (by simp [namesOf]; omega)
    rw [e1, e2] at htk
    repeat (first | refine gA ?_ | refine gB ?_ | refine gC rfl ?_ | refine gD rfl ?_ | ((first | refine gE env hN (by kernel_rfl) ?_ | refine gF ?_ | refine gG ?_ | refine gH fun hlen => ?_ | refine gI (by kernel_rfl) ?_ | refine gN rfl ?_ | refine gN (by omega) ?_ | refine gJ rfl ?_ | refine gK (by omega) ?_ | refine gL (by omega) ?_ | refine gK rfl ?_ | refine gO ?_ | refine gM ?_); conv => whnf))
    exact ret0 rfl (congrArg V.bool (by rw [decide_eq_true]; exact htk)) rfl
end Go.Sx.Sp
namespace Go.Proofs
open Go.Shelf
def Tryd.laysCompare_ren : Go.Shelf.Ren := ⟨fun | 106 => 112 | 213 => 136 | 265 => 156 | n => n, fun | 9 => 9 | 3 => 3 | n => n, fun | n => n⟩
theorem Tryd.laysCompare : Go.Proofs.Lays.n106 Tryd.prog Tryd.laysCompare_ren := {
  mixed := by kernel_rfl
  f106 := Tryd.func112.trans (congrArg some (by kernel_rfl))
  f213 := Tryd.func136.trans (congrArg some (by kernel_rfl))
  f265 := Tryd.func156.trans (congrArg some (by kernel_rfl))
  t3 := Tryd.underlying3
  a3 := Tryd.isAgg3
  z3 := Tryd.sizeOf3
  v3 := Tryd.zeroValue3
  t9 := Tryd.underlying9
  a9 := Tryd.isAgg9
  z9 := Tryd.sizeOf9
  v9 := Tryd.zeroValue9 }
end Go.Proofs
namespace Go.Sx.Sp
open Go Go.Sx Go.Proofs Go.RowKit Go.Shelf
attribute [local irreducible] GoodW
set_option maxRecDepth 1000000 in
theorem compare_spec (a b : Str) : Spec Tryd.prog 112 [.str a, .str b] [] (.int .i64 (Lib.compareBytes a b)) [] := by
  refine Spec.ofCalls (fun cargs w => enters_of Tryd.func112 (by kernel_rfl) rfl cargs w) fun w F m cargs hl ha hg => ?_
  match cargs, hl with
  | [c, d], _ =>
    obtain ⟨rfl, _⟩ := (ha 0 (.str a) c rfl rfl).str_inv
    obtain ⟨rfl, _⟩ := (ha 1 (.str b) d rfl rfl).str_inv
    refine (Any.strings_Compare Tryd.laysCompare ⟨a.toArray⟩ ⟨b.toArray⟩ w).mono fun e w' ⟨he, hb⟩ => ?_
    subst hb
    exact ⟨_, he, fun w' F m => .int _ _, ⟨rfl, rfl, rfl, Nat.le_refl _, fun _ _ => rfl⟩⟩
set_option maxHeartbeats 1000000 in
theorem texts_spec (x y : Cell) : Spec Tryd.prog 89 [.agg x.row, .agg y.row] [] (.int .i64 (Lib.compareBytes x.text y.text)) [] := by
  have sp := compare_spec x.text y.text
  refine Spec.body env Tryd.func89 rfl (by kernel_rfl) (Nat.le_of_ble_eq_true (by kernel_rfl)) (keysSub rfl) fun Γ hN hK => ?_; have hML : maxLen = 9223372036854775807 := by unfold maxLen; rfl
  repeat (first | refine gA ?_ | refine gB ?_ | refine gC rfl ?_ | refine gD rfl ?_ | ((first | refine gE env hN (by kernel_rfl) ?_ | refine gF ?_ | refine gG ?_ | refine gH fun hlen => ?_ | refine gI (by kernel_rfl) ?_ | refine gN rfl ?_ | refine gN (by omega) ?_ | refine gJ rfl ?_ | refine gK (by omega) ?_ | refine gL (by omega) ?_ | refine gK rfl ?_ | refine gO ?_); conv => whnf))
  (refine ⟨_, _, _, callG [] [] [] rfl rfl rfl (by kernel_rfl) (sp) (by repeat' (first | exact trivial | exact Lent.refl _ | exact Lent.norm _ | apply And.intro)) rfl ⟨rfl, rfl, rfl, rfl, rfl, trivial, rfl, rfl⟩, ?_⟩; conv => whnf)
  repeat (first | refine gA ?_ | refine gB ?_ | refine gC rfl ?_ | refine gD rfl ?_ | ((first | refine gE env hN (by kernel_rfl) ?_ | refine gF ?_ | refine gG ?_ | refine gH fun hlen => ?_ | refine gI (by kernel_rfl) ?_ | refine gN rfl ?_ | refine gN (by omega) ?_ | refine gJ rfl ?_ | refine gK (by omega) ?_ | refine gL (by omega) ?_ | refine gK rfl ?_ | refine gO ?_ | refine gM ?_); conv => whnf))
  exact ret0 rfl rfl rfl
def keyAt (k : Nat) (r : List Cell) : Str := (r.getD k ⟨false, []⟩).text
set_option maxHeartbeats 1000000 in
theorem byCol_spec (k : Nat) (x y : List Cell) (hx : k < x.length) (hy : k < y.length) : Spec Tryd.prog 91 [.sl (cellRows x) false, .sl (cellRows y) false, .ro [.int .i64 k] 0] [] (.int .i64 (Lib.compareBytes (keyAt k x) (keyAt k y))) [] := by
  have h1 : keyAt k x = x[k].text := by simp [keyAt, hx]
  have h2 : keyAt k y = y[k].text := by simp [keyAt, hy]
  rw [h1, h2]
  have gx := cellRows_get hx
  have gy := cellRows_get hy
  generalize x[k] = a at *
  generalize y[k] = b at *
  have sp := texts_spec a b
  refine Spec.body env Tryd.func91 rfl (by kernel_rfl) (Nat.le_of_ble_eq_true (by kernel_rfl)) (keysSub rfl) fun Γ hN hK => ?_; have hML : maxLen = 9223372036854775807 := by unfold maxLen; rfl
  repeat (first | refine gA ?_ | refine gB ?_ | refine gC rfl ?_ | refine gD rfl ?_ | ((first | refine gE env hN (by kernel_rfl) ?_ | refine gF ?_ | refine gG ?_ | refine gH fun hlen => ?_ | refine gI (by kernel_rfl) ?_ | refine gN rfl ?_ | refine gN (by omega) ?_ | refine gJ rfl ?_ | refine gK (by omega) ?_ | refine gL (by omega) ?_ | refine gK rfl ?_ | refine gO ?_); conv => whnf))
  refine rowAt_of (by simpa using gx) ?_
  conv => whnf
  repeat (first | refine gA ?_ | refine gB ?_ | refine gC rfl ?_ | refine gD rfl ?_ | ((first | refine gE env hN (by kernel_rfl) ?_ | refine gF ?_ | refine gG ?_ | refine gH fun hlen => ?_ | refine gI (by kernel_rfl) ?_ | refine gN rfl ?_ | refine gN (by omega) ?_ | refine gJ rfl ?_ | refine gK (by omega) ?_ | refine gL (by omega) ?_ | refine gK rfl ?_ | refine gO ?_); conv => whnf))
  refine rowAt_of (by simpa using gy) ?_
  conv => whnf
  repeat (first | refine gA ?_ | refine gB ?_ | refine gC rfl ?_ | refine gD rfl ?_ | ((first | refine gE env hN (by kernel_rfl) ?_ | refine gF ?_ | refine gG ?_ | refine gH fun hlen => ?_ | refine gI (by kernel_rfl) ?_ | refine gN rfl ?_ | refine gN (by omega) ?_ | refine gJ rfl ?_ | refine gK (by omega) ?_ | refine gL (by omega) ?_ | refine gK rfl ?_ | refine gO ?_); conv => whnf))
  (refine ⟨_, _, _, callG [] [] [] rfl rfl rfl (by kernel_rfl) (sp) (by repeat' (first | exact trivial | exact Lent.refl _ | exact Lent.norm _ | apply And.intro)) rfl ⟨rfl, rfl, rfl, rfl, rfl, trivial, rfl, rfl⟩, ?_⟩; conv => whnf)
  repeat (first | refine gA ?_ | refine gB ?_ | refine gC rfl ?_ | refine gD rfl ?_ | ((first | refine gE env hN (by kernel_rfl) ?_ | refine gF ?_ | refine gG ?_ | refine gH fun hlen => ?_ | refine gI (by kernel_rfl) ?_ | refine gN rfl ?_ | refine gN (by omega) ?_ | refine gJ rfl ?_ | refine gK (by omega) ?_ | refine gL (by omega) ?_ | refine gK rfl ?_ | refine gO ?_ | refine gM ?_); conv => whnf))
  exact ret0 rfl rfl rfl
section
variable {α : Type} (key : α → Str)
def placeK (l : List α) (t : Str) : Nat → Nat
  | 0 => 0
  | n + 1 => match l[n]? with
    | some x => if Lib.compareBytes t (key x) < 0 then placeK l t n else n + 1
    | none => 0
def insK (l : List α) (x : α) : List α := l.take (placeK key l (key x) l.length) ++ x :: l.drop (placeK key l (key x) l.length)
def sortK (l : List α) : List α := l.foldl (insK key) []
theorem placeK_le (l : List α) (t : Str) : ∀ n, placeK key l t n ≤ n
  | 0 => Nat.le_refl _
  | n + 1 => by
    simp only [placeK]
    split
    · split
      · exact Nat.le_succ_of_le (placeK_le l t n)
      · exact Nat.le_refl _
    · exact Nat.zero_le _
theorem insK_len (l : List α) (x : α) : (insK key l x).length = l.length + 1 := by
  have := placeK_le key l (key x) l.length
  simp [insK]; omega
theorem sortK_snoc (l : List α) (x : α) : sortK key (l ++ [x]) = insK key (sortK key l) x := by simp [sortK]
theorem sortK_len (l : List α) : (sortK key l).length = l.length := by
  have h : ∀ (l s : List α), (l.foldl (insK key) s).length = s.length + l.length := by
    intro l
    induction l with
    | nil => simp
    | cons x l ih => intro s; simp only [List.foldl_cons, ih, insK_len, List.length_cons]; omega
  have := h l []
  simpa [sortK] using this
theorem insK_iff (l : List α) (x y : α) : y ∈ insK key l x ↔ y ∈ l ∨ y = x := by
  unfold insK
  rw [List.mem_append, List.mem_cons]
  constructor
  · rintro (h | h | h)
    · exact .inl (List.mem_of_mem_take h)
    · exact .inr h
    · exact .inl (List.mem_of_mem_drop h)
  · rintro (h | h)
    · rw [← List.take_append_drop (placeK key l (key x) l.length) l] at h
      rcases List.mem_append.1 h with h | h
      · exact .inl h
      · exact .inr (.inr h)
    · exact .inr (.inl h)
theorem sortK_mem (l : List α) (y : α) : y ∈ sortK key l ↔ y ∈ l := by
  have h : ∀ (l s : List α), y ∈ l.foldl (insK key) s ↔ y ∈ s ∨ y ∈ l := by
    intro l
    induction l with
    | nil => simp
    | cons x l ih => intro s; rw [List.foldl_cons, ih, insK_iff, List.mem_cons, or_assoc]
  have := h l []
  simpa [sortK] using this
def midK (P : List α) (x : α) (j : Nat) (R : List α) : List α := P.take j ++ x :: (P.drop j ++ R)
theorem midK_end (P : List α) (x : α) (R : List α) : midK P x P.length R = P ++ x :: R := by simp [midK]
end
set_option maxHeartbeats 8000000 in
theorem cell_insertion_spec (l : List (Cell)) (hl : 1 ≤ l.length) (hn : l.length ≤ 12) : Spec Tryd.prog 128 [.osl 0 0 0 (cellRows l).length (cellRows l).length, .int .i64 0, .int .i64 (cellRows l).length, .fn 89 []] [(0, .rows 2 (cellRows l) (some []))] (.tup []) [(0, .rows 2 (cellRows (sortK (Cell.text) l)) (some []))] := by
  have hll := cellRows_len l
  have h1 : cellRows (sortK (Cell.text) (l.take 1) ++ l.drop 1) = cellRows l := by
    cases l with
    | nil => simp at hl
    | cons x r => rfl
  refine Spec.body env Tryd.func128 rfl (by kernel_rfl) (Nat.le_of_ble_eq_true (by kernel_rfl)) (keysSub rfl) fun Γ hN hK => ?_; have hML : maxLen = 9223372036854775807 := by unfold maxLen; rfl
  repeat (first | refine gA ?_ | refine gB ?_ | refine gC rfl ?_ | refine gD rfl ?_ | ((first | refine gE env hN (by kernel_rfl) ?_ | refine gF ?_ | refine gG ?_ | refine gH fun hlen => ?_ | refine gI (by kernel_rfl) ?_ | refine gN rfl ?_ | refine gN (by omega) ?_ | refine gJ rfl ?_ | refine gK (by omega) ?_ | refine gL (by omega) ?_ | refine gK rfl ?_ | refine gO ?_); conv => whnf))
  refine W.loopG (fun n st => ∃ i : Nat, 1 ≤ i ∧ i ≤ l.length ∧ n = l.length - i ∧ st = ⟨[(0, .osl 0 0 0 (cellRows l).length (cellRows l).length), (1, .int .i64 0), (2, .int .i64 (cellRows l).length), (3, .fn 89 []), (8, .int .i64 i)], [(0, [.rows 2 (cellRows (sortK (Cell.text) (l.take i) ++ l.drop i)) (some [])])], [0]⟩)
    (l.length - 1) _ ⟨1, by omega, hl, rfl, rfl⟩ ⟨[(0, 0)], [], [], LeG.mk' rfl rfl rfl (by repeat' (first | exact trivial | exact ⟨_, .refl _, rfl⟩ | apply And.intro)) (.cons 0 rfl rfl (.refl _) (congrArg (fun r => [Blk.rows 2 r (some [])]) h1) .nil) rfl rfl (by rw [hK]; rfl)⟩ ?_
  rintro n st ⟨i, hi1, hi, rfl, rfl⟩
  repeat (first | refine gA ?_ | refine gB ?_ | refine gC rfl ?_ | refine gD rfl ?_ | ((first | refine gE env hN (by kernel_rfl) ?_ | refine gF ?_ | refine gG ?_ | refine gH fun hlen => ?_ | refine gI (by kernel_rfl) ?_ | refine gN rfl ?_ | refine gN (by omega) ?_ | refine gJ rfl ?_ | refine gK (by omega) ?_ | refine gL (by omega) ?_ | refine gK rfl ?_ | refine gO ?_); conv => whnf))
  refine boolRes_split (fun hb => ?_) (fun hb => ?_) <;> conv => whnf
  · have hlt : i < l.length := by omega
    have hdr : l.drop i = l[i] :: l.drop (i + 1) := List.drop_eq_getElem_cons hlt
    have hs : sortK (Cell.text) (l.take (i + 1)) = insK (Cell.text) (sortK (Cell.text) (l.take i)) l[i] := by rw [List.take_succ_eq_append_getElem hlt, sortK_snoc (Cell.text)]
    have hpl : (sortK (Cell.text) (l.take i)).length = i := by rw [sortK_len]; simp; omega
    have hrl : (l.drop (i + 1)).length = l.length - (i + 1) := by simp
    have htot : sortK (Cell.text) (l.take i) ++ l.drop i = midK (sortK (Cell.text) (l.take i)) l[i] i (l.drop (i + 1)) := by
      have h2 := midK_end (sortK (Cell.text) (l.take i)) l[i] (l.drop (i + 1))
      rw [hpl] at h2
      rw [hdr, h2]
    have hend : sortK (Cell.text) (l.take (i + 1)) ++ l.drop (i + 1) = midK (sortK (Cell.text) (l.take i)) l[i] (placeK (Cell.text) (sortK (Cell.text) (l.take i)) ((Cell.text) l[i]) i) (l.drop (i + 1)) := by
      rw [hs]; unfold midK insK; rw [hpl]; simp
    rw [htot]
    generalize sortK (Cell.text) (l.take i) = P at *
    generalize l[i] = x at *
    repeat (first | refine gA ?_ | refine gB ?_ | refine gC rfl ?_ | refine gD rfl ?_ | ((first | refine gE env hN (by kernel_rfl) ?_ | refine gF ?_ | refine gG ?_ | refine gH fun hlen => ?_ | refine gI (by kernel_rfl) ?_ | refine gN rfl ?_ | refine gN (by omega) ?_ | refine gJ rfl ?_ | refine gK (by omega) ?_ | refine gL (by omega) ?_ | refine gK rfl ?_ | refine gO ?_); conv => whnf))
    refine W.loopG (fun n st => ∃ j : Nat, j ≤ i ∧ placeK (Cell.text) P ((Cell.text) x) i = placeK (Cell.text) P ((Cell.text) x) j ∧ n = j ∧ st = ⟨[(0, .osl 0 0 0 (cellRows l).length (cellRows l).length), (1, .int .i64 0), (2, .int .i64 (cellRows l).length), (3, .fn 89 []), (8, .int .i64 i), (9, .int .i64 j)], [(0, [.rows 2 (cellRows (midK P x j (l.drop (i + 1)))) (some [])])], [0]⟩)
      i _ ⟨i, by omega, rfl, rfl, rfl⟩ ⟨[(0, 0)], [], [], LeG.mk' rfl rfl rfl (by repeat' (first | exact trivial | exact ⟨_, .refl _, rfl⟩ | apply And.intro)) (.cons 0 rfl rfl (.refl _) rfl .nil) rfl rfl (by rw [hK]; rfl)⟩ ?_
    rintro n st ⟨j, hj, hpj, hnj, rfl⟩
    have hmlen : (midK P x j (l.drop (i + 1))).length = l.length := by simp [midK]; omega
    have hml := cellRows_len (midK P x j (l.drop (i + 1)))
    repeat (first | refine gA ?_ | refine gB ?_ | refine gC rfl ?_ | refine gD rfl ?_ | ((first | refine gE env hN (by kernel_rfl) ?_ | refine gF ?_ | refine gG ?_ | refine gH fun hlen => ?_ | refine gI (by kernel_rfl) ?_ | refine gN rfl ?_ | refine gN (by omega) ?_ | refine gJ rfl ?_ | refine gK (by omega) ?_ | refine gL (by omega) ?_ | refine gK rfl ?_ | refine gO ?_); conv => whnf))
    refine boolRes_split (fun hb => ?_) (fun hb => ?_) <;> conv => whnf
    · obtain ⟨p, rfl⟩ : ∃ p, j = p + 1 := ⟨j - 1, by omega⟩
      have hpP : p < P.length := by omega
      have g1 : (midK P x (p + 1) (l.drop (i + 1)))[p + 1]? = some x := by
        unfold midK
        rw [List.getElem?_append_right (by simp; omega)]
        simp only [List.length_take]
        rw [show p + 1 - min (p + 1) P.length = 0 by omega]
        rfl
      have g2 : (midK P x (p + 1) (l.drop (i + 1)))[p]? = some P[p] := by
        unfold midK
        rw [List.getElem?_append_left (by simp; omega), List.getElem?_take]
        simp [hpP]
      have g3 : placeK (Cell.text) P ((Cell.text) x) (p + 1) = if Lib.compareBytes ((Cell.text) x) ((Cell.text) P[p]) < 0 then placeK (Cell.text) P ((Cell.text) x) p else p + 1 := by
        simp only [placeK, List.getElem?_eq_getElem hpP]
      have hsw : ((midK P x (p + 1) (l.drop (i + 1))).set (p + 1) P[p]).set p x = midK P x p (l.drop (i + 1)) := by
        have e1 : midK P x (p + 1) (l.drop (i + 1)) = P.take p ++ P[p] :: x :: (P.drop (p + 1) ++ (l.drop (i + 1))) := by unfold midK; rw [List.take_succ_eq_append_getElem hpP, List.append_assoc]; rfl
        have e2 : midK P x p (l.drop (i + 1)) = P.take p ++ x :: P[p] :: (P.drop (p + 1) ++ (l.drop (i + 1))) := by unfold midK; rw [List.drop_eq_getElem_cons hpP]; rfl
        have e3 : (P.take p).length = p := by simp; omega
        rw [e1, e2, List.set_append_right _ _ (by omega), List.set_append_right _ _ (by omega), e3, show p + 1 - p = 1 by omega, Nat.sub_self]
        rfl
      have r1 : (cellRows (midK P x (p + 1) (l.drop (i + 1))))[p + 1]? = some (Cell.row x) := by simp [cellRows, g1]
      have r2 : (cellRows (midK P x (p + 1) (l.drop (i + 1))))[p]? = some (Cell.row P[p]) := by simp [cellRows, g2]
      have sp := texts_spec x P[p]
      generalize P[p] = y at *
      repeat (first | refine gA ?_ | refine gB ?_ | refine gC rfl ?_ | refine gD rfl ?_ | ((first | refine gE env hN (by kernel_rfl) ?_ | refine gF ?_ | refine gG ?_ | refine gH fun hlen => ?_ | refine gI (by kernel_rfl) ?_ | refine gN rfl ?_ | refine gN (by omega) ?_ | refine gJ rfl ?_ | refine gK (by omega) ?_ | refine gL (by omega) ?_ | refine gK rfl ?_ | refine gO ?_); conv => whnf))
      refine rowAt_of (by simpa using r1) ?_
      conv => whnf
      repeat (first | refine gA ?_ | refine gB ?_ | refine gC rfl ?_ | refine gD rfl ?_ | ((first | refine gE env hN (by kernel_rfl) ?_ | refine gF ?_ | refine gG ?_ | refine gH fun hlen => ?_ | refine gI (by kernel_rfl) ?_ | refine gN rfl ?_ | refine gN (by omega) ?_ | refine gJ rfl ?_ | refine gK (by omega) ?_ | refine gL (by omega) ?_ | refine gK rfl ?_ | refine gO ?_); conv => whnf))
      refine rowAt_of (r := (Cell.row y)) (by simpa using r2) ?_
      conv => whnf
      repeat (first | refine gA ?_ | refine gB ?_ | refine gC rfl ?_ | refine gD rfl ?_ | ((first | refine gE env hN (by kernel_rfl) ?_ | refine gF ?_ | refine gG ?_ | refine gH fun hlen => ?_ | refine gI (by kernel_rfl) ?_ | refine gN rfl ?_ | refine gN (by omega) ?_ | refine gJ rfl ?_ | refine gK (by omega) ?_ | refine gL (by omega) ?_ | refine gK rfl ?_ | refine gO ?_); conv => whnf))
      (refine ⟨_, _, _, callG [] [] [] rfl rfl rfl (by kernel_rfl) (sp) (by repeat' (first | exact trivial | exact Lent.refl _ | exact Lent.norm _ | apply And.intro)) rfl ⟨rfl, rfl, rfl, rfl, rfl, trivial, rfl, rfl⟩, ?_⟩; conv => whnf)
      repeat (first | refine gA ?_ | refine gB ?_ | refine gC rfl ?_ | refine gD rfl ?_ | ((first | refine gE env hN (by kernel_rfl) ?_ | refine gF ?_ | refine gG ?_ | refine gH fun hlen => ?_ | refine gI (by kernel_rfl) ?_ | refine gN rfl ?_ | refine gN (by omega) ?_ | refine gJ rfl ?_ | refine gK (by omega) ?_ | refine gL (by omega) ?_ | refine gK rfl ?_ | refine gO ?_); conv => whnf))
      refine boolRes_split (fun hb2 => ?_) (fun hb2 => ?_) <;> conv => whnf
      · rw [if_pos hb2] at g3
        repeat (first | refine gA ?_ | refine gB ?_ | refine gC rfl ?_ | refine gD rfl ?_ | ((first | refine gE env hN (by kernel_rfl) ?_ | refine gF ?_ | refine gG ?_ | refine gH fun hlen => ?_ | refine gI (by kernel_rfl) ?_ | refine gN rfl ?_ | refine gN (by omega) ?_ | refine gJ rfl ?_ | refine gK (by omega) ?_ | refine gL (by omega) ?_ | refine gK rfl ?_ | refine gO ?_); conv => whnf))
        refine rowAt_of (r := (Cell.row y)) (by simpa using r2) ?_
        conv => whnf
        repeat (first | refine gA ?_ | refine gB ?_ | refine gC rfl ?_ | refine gD rfl ?_ | ((first | refine gE env hN (by kernel_rfl) ?_ | refine gF ?_ | refine gG ?_ | refine gH fun hlen => ?_ | refine gI (by kernel_rfl) ?_ | refine gN rfl ?_ | refine gN (by omega) ?_ | refine gJ rfl ?_ | refine gK (by omega) ?_ | refine gL (by omega) ?_ | refine gK rfl ?_ | refine gO ?_); conv => whnf))
        refine rowAt_of (by simpa using r1) ?_
        conv => whnf
        repeat (first | refine gA ?_ | refine gB ?_ | refine gC rfl ?_ | refine gD rfl ?_ | ((first | refine gE env hN (by kernel_rfl) ?_ | refine gF ?_ | refine gG ?_ | refine gH fun hlen => ?_ | refine gI (by kernel_rfl) ?_ | refine gN rfl ?_ | refine gN (by omega) ?_ | refine gJ rfl ?_ | refine gK (by omega) ?_ | refine gL (by omega) ?_ | refine gK rfl ?_ | refine gO ?_); conv => whnf))
        refine rowAt_of (r := (Cell.row x)) (by simpa using r1) ?_
        conv => whnf
        repeat (first | refine gA ?_ | refine gB ?_ | refine gC rfl ?_ | refine gD rfl ?_ | ((first | refine gE env hN (by kernel_rfl) ?_ | refine gF ?_ | refine gG ?_ | refine gH fun hlen => ?_ | refine gI (by kernel_rfl) ?_ | refine gN rfl ?_ | refine gN (by omega) ?_ | refine gJ rfl ?_ | refine gK (by omega) ?_ | refine gL (by omega) ?_ | refine gK rfl ?_ | refine gO ?_); conv => whnf))
        refine ⟨by rw [List.length_set, hml]; omega, ⟨by omega, by omega⟩, ?_⟩
        conv => whnf
        repeat (first | refine gA ?_ | refine gB ?_ | refine gC rfl ?_ | refine gD rfl ?_ | ((first | refine gE env hN (by kernel_rfl) ?_ | refine gF ?_ | refine gG ?_ | refine gH fun hlen => ?_ | refine gI (by kernel_rfl) ?_ | refine gN rfl ?_ | refine gN (by omega) ?_ | refine gJ rfl ?_ | refine gK (by omega) ?_ | refine gL (by omega) ?_ | refine gK rfl ?_ | refine gO ?_); conv => whnf))
        refine ⟨by rw [List.length_set, hml]; omega, ?_⟩
        refine rowAt_of (r := (Cell.row y)) (by rw [List.getElem?_set]; split; (exfalso; omega); simpa using r2) ?_
        conv => whnf
        repeat (first | refine gA ?_ | refine gB ?_ | refine gC rfl ?_ | refine gD rfl ?_ | ((first | refine gE env hN (by kernel_rfl) ?_ | refine gF ?_ | refine gG ?_ | refine gH fun hlen => ?_ | refine gI (by kernel_rfl) ?_ | refine gN rfl ?_ | refine gN (by omega) ?_ | refine gJ rfl ?_ | refine gK (by omega) ?_ | refine gL (by omega) ?_ | refine gK rfl ?_ | refine gO ?_); conv => whnf))
        have hset : cellRows (midK P x p (l.drop (i + 1))) = ((cellRows (midK P x (p + 1) (l.drop (i + 1)))).set (0 + ((p + 1 : Nat) : Int).toNat) (Cell.row y)).set (0 + (((p + 1 : Nat) : Int) - 1).toNat) (Cell.row x) := by
          rw [← hsw, show 0 + ((p + 1 : Nat) : Int).toNat = p + 1 by omega, show 0 + (((p + 1 : Nat) : Int) - 1).toNat = p by omega]
          simp [cellRows, List.map_set]
        refine ⟨_, _, ?_, ⟨p, by omega, by rw [hpj, g3], rfl, rfl⟩, [(0, 0)], [], [], LeG.mk' rfl rfl rfl (by repeat' (first | exact trivial | exact ⟨_, .refl _, rfl⟩ | exact ⟨_, .refl _, congrArg (V.int .i64) (by omega)⟩ | apply And.intro)) (.cons 0 rfl rfl (.refl _) (congrArg (fun r => [Blk.rows 2 r (some [])]) hset) .nil) rfl rfl (by rw [hK]; rfl)⟩
        omega
      · have hpe : placeK (Cell.text) P ((Cell.text) x) (p + 1) = p + 1 := by rw [g3, if_neg hb2]
        rw [hpj, hpe] at hend
        repeat (first | refine gA ?_ | refine gB ?_ | refine gC rfl ?_ | refine gD rfl ?_ | ((first | refine gE env hN (by kernel_rfl) ?_ | refine gF ?_ | refine gG ?_ | refine gH fun hlen => ?_ | refine gI (by kernel_rfl) ?_ | refine gN rfl ?_ | refine gN (by omega) ?_ | refine gJ rfl ?_ | refine gK (by omega) ?_ | refine gL (by omega) ?_ | refine gK rfl ?_ | refine gO ?_); conv => whnf))
        refine ⟨_, _, ?_, ⟨i + 1, by omega, by omega, rfl, rfl⟩, [(0, 0)], [], [], LeG.mk' rfl rfl rfl (by repeat' (first | exact trivial | exact ⟨_, .refl _, rfl⟩ | apply And.intro)) (.cons 0 rfl rfl (.refl _) (congrArg (fun r => [Blk.rows 2 (cellRows r) (some [])]) hend) .nil) rfl rfl (by rw [hK]; rfl)⟩
        omega
    · skip
      have hj0 : j = 0 := by omega
      have hpe : placeK (Cell.text) P ((Cell.text) x) j = j := by rw [hj0]; rfl
      rw [hpj, hpe] at hend
      repeat (first | refine gA ?_ | refine gB ?_ | refine gC rfl ?_ | refine gD rfl ?_ | ((first | refine gE env hN (by kernel_rfl) ?_ | refine gF ?_ | refine gG ?_ | refine gH fun hlen => ?_ | refine gI (by kernel_rfl) ?_ | refine gN rfl ?_ | refine gN (by omega) ?_ | refine gJ rfl ?_ | refine gK (by omega) ?_ | refine gL (by omega) ?_ | refine gK rfl ?_ | refine gO ?_); conv => whnf))
      refine ⟨_, _, ?_, ⟨i + 1, by omega, by omega, rfl, rfl⟩, [(0, 0)], [], [], LeG.mk' rfl rfl rfl (by repeat' (first | exact trivial | exact ⟨_, .refl _, rfl⟩ | apply And.intro)) (.cons 0 rfl rfl (.refl _) (congrArg (fun r => [Blk.rows 2 (cellRows r) (some [])]) hend) .nil) rfl rfl (by rw [hK]; rfl)⟩
      omega
  · have hie : i = l.length := by omega
    have hfin : sortK (Cell.text) (l.take i) ++ l.drop i = sortK (Cell.text) l := by rw [hie, List.take_length, List.drop_length, List.append_nil]
    rw [hfin]
    repeat (first | refine gA ?_ | refine gB ?_ | refine gC rfl ?_ | refine gD rfl ?_ | ((first | refine gE env hN (by kernel_rfl) ?_ | refine gF ?_ | refine gG ?_ | refine gH fun hlen => ?_ | refine gI (by kernel_rfl) ?_ | refine gN rfl ?_ | refine gN (by omega) ?_ | refine gJ rfl ?_ | refine gK (by omega) ?_ | refine gL (by omega) ?_ | refine gK rfl ?_ | refine gO ?_); conv => whnf))
    exact retHn rfl (.refl _) rfl rfl rfl ⟨rfl, rfl, trivial⟩
set_option maxHeartbeats 8000000 in
theorem cell_insertion0_spec : Spec Tryd.prog 128 [.osl 0 0 0 0 0, .int .i64 0, .int .i64 0, .fn 89 []] [(0, .rows 2 [] (some []))] (.tup []) [(0, .rows 2 [] (some []))] := by
  refine Spec.body env Tryd.func128 rfl (by kernel_rfl) (Nat.le_of_ble_eq_true (by kernel_rfl)) (keysSub rfl) fun Γ hN hK => ?_; have hML : maxLen = 9223372036854775807 := by unfold maxLen; rfl
  repeat (first | refine gA ?_ | refine gB ?_ | refine gC rfl ?_ | refine gD rfl ?_ | ((first | refine gE env hN (by kernel_rfl) ?_ | refine gF ?_ | refine gG ?_ | refine gH fun hlen => ?_ | refine gI (by kernel_rfl) ?_ | refine gN rfl ?_ | refine gN (by omega) ?_ | refine gJ rfl ?_ | refine gK (by omega) ?_ | refine gL (by omega) ?_ | refine gK rfl ?_ | refine gO ?_); conv => whnf))
  refine W.loopG (fun n st => n = 0 ∧ st = ⟨[(0, .osl 0 0 0 0 0), (1, .int .i64 0), (2, .int .i64 0), (3, .fn 89 []), (8, .int .i64 1)], [(0, [.rows 2 [] (some [])])], [0]⟩)
    0 _ ⟨rfl, rfl⟩ ⟨[(0, 0)], [], [], LeG.mk' rfl rfl rfl (by repeat' (first | exact trivial | exact ⟨_, .refl _, rfl⟩ | apply And.intro)) (.cons 0 rfl rfl (.refl _) rfl .nil) rfl rfl (by rw [hK]; rfl)⟩ ?_
  rintro n st ⟨rfl, rfl⟩
  repeat (first | refine gA ?_ | refine gB ?_ | refine gC rfl ?_ | refine gD rfl ?_ | ((first | refine gE env hN (by kernel_rfl) ?_ | refine gF ?_ | refine gG ?_ | refine gH fun hlen => ?_ | refine gI (by kernel_rfl) ?_ | refine gN rfl ?_ | refine gN (by omega) ?_ | refine gJ rfl ?_ | refine gK (by omega) ?_ | refine gL (by omega) ?_ | refine gK rfl ?_ | refine gO ?_); conv => whnf))
  exact retHn rfl (.refl _) rfl rfl rfl ⟨rfl, rfl, trivial⟩
theorem cell_insertionAny_spec (l : List (Cell)) (hn : l.length ≤ 12) : Spec Tryd.prog 128 [.osl 0 0 0 (cellRows l).length (cellRows l).length, .int .i64 0, .int .i64 (cellRows l).length, .fn 89 []] [(0, .rows 2 (cellRows l) (some []))] (.tup []) [(0, .rows 2 (cellRows (sortK (Cell.text) l)) (some []))] := by
  cases l with
  | nil => exact cell_insertion0_spec
  | cons x r => exact cell_insertion_spec _ (by simp) hn
set_option maxHeartbeats 8000000 in
theorem cell_pdq_spec (l : List (Cell)) (k : Int) (hn : l.length ≤ 12) : Spec Tryd.prog 111 [.osl 0 0 0 (cellRows l).length (cellRows l).length, .int .i64 0, .int .i64 (cellRows l).length, .int .i64 k, .fn 89 []] [(0, .rows 2 (cellRows l) (some []))] (.tup []) [(0, .rows 2 (cellRows (sortK (Cell.text) l)) (some []))] := by
  have hll := cellRows_len l
  have sp := cell_insertionAny_spec l hn
  refine Spec.body env Tryd.func111 rfl (by kernel_rfl) (Nat.le_of_ble_eq_true (by kernel_rfl)) (keysSub rfl) fun Γ hN hK => ?_; have hML : maxLen = 9223372036854775807 := by unfold maxLen; rfl
  repeat (first | refine gA ?_ | refine gB ?_ | refine gC rfl ?_ | refine gD rfl ?_ | ((first | refine gE env hN (by kernel_rfl) ?_ | refine gF ?_ | refine gG ?_ | refine gH fun hlen => ?_ | refine gI (by kernel_rfl) ?_ | refine gN rfl ?_ | refine gN (by omega) ?_ | refine gJ rfl ?_ | refine gK (by omega) ?_ | refine gL (by omega) ?_ | refine gK rfl ?_ | refine gO ?_); conv => whnf))
  refine W.loopG (fun n st => n = 0 ∧ st = ⟨[(0, .osl 0 0 0 (cellRows l).length (cellRows l).length), (1, .int .i64 0), (2, .int .i64 (cellRows l).length), (3, .int .i64 k), (4, .fn 89 [])], [(0, [.rows 2 (cellRows l) (some [])])], [0]⟩)
    0 _ ⟨rfl, rfl⟩ ⟨[(0, 0)], [], [], LeG.mk' rfl rfl rfl (by repeat' (first | exact trivial | exact ⟨_, .refl _, rfl⟩ | apply And.intro)) (.cons 0 rfl rfl (.refl _) rfl .nil) rfl rfl (by rw [hK]; rfl)⟩ ?_
  rintro n st ⟨rfl, rfl⟩
  repeat (first | refine gA ?_ | refine gB ?_ | refine gC rfl ?_ | refine gD rfl ?_ | ((first | refine gE env hN (by kernel_rfl) ?_ | refine gF ?_ | refine gG ?_ | refine gH fun hlen => ?_ | refine gI (by kernel_rfl) ?_ | refine gN rfl ?_ | refine gN (by omega) ?_ | refine gJ rfl ?_ | refine gK (by omega) ?_ | refine gL (by omega) ?_ | refine gK rfl ?_ | refine gO ?_); conv => whnf))
  (refine ⟨_, _, _, callG [(0, 0)] [] [] rfl rfl rfl (by kernel_rfl) (sp) (by repeat' (first | exact trivial | exact Lent.refl _ | exact Lent.norm _ | apply And.intro)) rfl ⟨rfl, rfl, rfl, rfl, rfl, by repeat' (first | exact trivial | rfl | apply And.intro), rfl, rfl⟩, ?_⟩; conv => whnf)
  repeat (first | refine gA ?_ | refine gB ?_ | refine gC rfl ?_ | refine gD rfl ?_ | ((first | refine gE env hN (by kernel_rfl) ?_ | refine gF ?_ | refine gG ?_ | refine gH fun hlen => ?_ | refine gI (by kernel_rfl) ?_ | refine gN rfl ?_ | refine gN (by omega) ?_ | refine gJ rfl ?_ | refine gK (by omega) ?_ | refine gL (by omega) ?_ | refine gK rfl ?_ | refine gO ?_); conv => whnf))
  (refine gM ?_; conv => whnf)
  exact retH rfl (.refl _) rfl rfl rfl ⟨rfl, rfl, trivial⟩
set_option maxHeartbeats 8000000 in
theorem cell_sortFunc_spec (l : List (Cell)) (hn : l.length ≤ 12) : Spec Tryd.prog 88 [.osl 0 0 0 (cellRows l).length (cellRows l).length, .fn 89 []] [(0, .rows 2 (cellRows l) (some []))] (.tup []) [(0, .rows 2 (cellRows (sortK (Cell.text) l)) (some []))] := by
  have hll := cellRows_len l
  have sp1 := len_spec l.length hn
  have sp2 := cell_pdq_spec l (blen l.length) hn
  have hw : IntKind.u64.wrap ((cellRows l).length : Int) = l.length := by
    rw [hll]
    exact IntWalk.u64_in _ (by omega)
  rw [← hw] at sp1
  refine Spec.body env Tryd.func88 rfl (by kernel_rfl) (Nat.le_of_ble_eq_true (by kernel_rfl)) (keysSub rfl) fun Γ hN hK => ?_; have hML : maxLen = 9223372036854775807 := by unfold maxLen; rfl
  repeat (first | refine gA ?_ | refine gB ?_ | refine gC rfl ?_ | refine gD rfl ?_ | ((first | refine gE env hN (by kernel_rfl) ?_ | refine gF ?_ | refine gG ?_ | refine gH fun hlen => ?_ | refine gI (by kernel_rfl) ?_ | refine gN rfl ?_ | refine gN (by omega) ?_ | refine gJ rfl ?_ | refine gK (by omega) ?_ | refine gL (by omega) ?_ | refine gK rfl ?_ | refine gO ?_); conv => whnf))
  (refine ⟨_, _, _, callG [] [] [] rfl rfl rfl (by kernel_rfl) (sp1) (by repeat' (first | exact trivial | exact Lent.refl _ | exact Lent.norm _ | apply And.intro)) rfl ⟨rfl, rfl, rfl, rfl, rfl, trivial, rfl, rfl⟩, ?_⟩; conv => whnf)
  repeat (first | refine gA ?_ | refine gB ?_ | refine gC rfl ?_ | refine gD rfl ?_ | ((first | refine gE env hN (by kernel_rfl) ?_ | refine gF ?_ | refine gG ?_ | refine gH fun hlen => ?_ | refine gI (by kernel_rfl) ?_ | refine gN rfl ?_ | refine gN (by omega) ?_ | refine gJ rfl ?_ | refine gK (by omega) ?_ | refine gL (by omega) ?_ | refine gK rfl ?_ | refine gO ?_); conv => whnf))
  (refine ⟨_, _, _, callG [(0, 0)] [] [] rfl rfl rfl (by kernel_rfl) (sp2) (by repeat' (first | exact trivial | exact Lent.refl _ | exact Lent.norm _ | apply And.intro)) rfl ⟨rfl, rfl, rfl, rfl, rfl, by repeat' (first | exact trivial | rfl | apply And.intro), rfl, rfl⟩, ?_⟩; conv => whnf)
  repeat (first | refine gA ?_ | refine gB ?_ | refine gC rfl ?_ | refine gD rfl ?_ | ((first | refine gE env hN (by kernel_rfl) ?_ | refine gF ?_ | refine gG ?_ | refine gH fun hlen => ?_ | refine gI (by kernel_rfl) ?_ | refine gN rfl ?_ | refine gN (by omega) ?_ | refine gJ rfl ?_ | refine gK (by omega) ?_ | refine gL (by omega) ?_ | refine gK rfl ?_ | refine gO ?_); conv => whnf))
  exact retHn rfl (.refl _) rfl rfl rfl ⟨rfl, rfl, trivial⟩
def lineV (r : List Cell) : List V := [.sl (cellRows r) false]
def lineRows (l : List (List Cell)) : List (List V) := l.map lineV
theorem lineRows_len (l : List (List Cell)) : (lineRows l).length = l.length := by simp [lineRows]
set_option maxHeartbeats 8000000 in
theorem line_insertion_spec (k : Nat) (l : List (List Cell)) (hl : 1 ≤ l.length) (hn : l.length ≤ 12) (hk : ∀ r ∈ l, k < r.length) : Spec Tryd.prog 137 [.osl 0 0 0 (lineRows l).length (lineRows l).length, .int .i64 0, .int .i64 (lineRows l).length, .fn 91 [.ro [.int .i64 k] 0]] [(0, .rows 1 (lineRows l) (some []))] (.tup []) [(0, .rows 1 (lineRows (sortK (keyAt k) l)) (some []))] := by
  have hll := lineRows_len l
  have h1 : lineRows (sortK (keyAt k) (l.take 1) ++ l.drop 1) = lineRows l := by
    cases l with
    | nil => simp at hl
    | cons x r => rfl
  refine Spec.body env Tryd.func137 rfl (by kernel_rfl) (Nat.le_of_ble_eq_true (by kernel_rfl)) (keysSub rfl) fun Γ hN hK => ?_; have hML : maxLen = 9223372036854775807 := by unfold maxLen; rfl
  repeat (first | refine gA ?_ | refine gB ?_ | refine gC rfl ?_ | refine gD rfl ?_ | ((first | refine gE env hN (by kernel_rfl) ?_ | refine gF ?_ | refine gG ?_ | refine gH fun hlen => ?_ | refine gI (by kernel_rfl) ?_ | refine gN rfl ?_ | refine gN (by omega) ?_ | refine gJ rfl ?_ | refine gK (by omega) ?_ | refine gL (by omega) ?_ | refine gK rfl ?_ | refine gO ?_); conv => whnf))
  refine W.loopG (fun n st => ∃ i : Nat, 1 ≤ i ∧ i ≤ l.length ∧ n = l.length - i ∧ st = ⟨[(0, .osl 0 0 0 (lineRows l).length (lineRows l).length), (1, .int .i64 0), (2, .int .i64 (lineRows l).length), (3, .fn 91 [.ro [.int .i64 k] 0]), (8, .int .i64 i)], [(0, [.rows 1 (lineRows (sortK (keyAt k) (l.take i) ++ l.drop i)) (some [])])], [0]⟩)
    (l.length - 1) _ ⟨1, by omega, hl, rfl, rfl⟩ ⟨[(0, 0)], [], [], LeG.mk' rfl rfl rfl (by repeat' (first | exact trivial | exact ⟨_, .refl _, rfl⟩ | apply And.intro)) (.cons 0 rfl rfl (.refl _) (congrArg (fun r => [Blk.rows 1 r (some [])]) h1) .nil) rfl rfl (by rw [hK]; rfl)⟩ ?_
  rintro n st ⟨i, hi1, hi, rfl, rfl⟩
  repeat (first | refine gA ?_ | refine gB ?_ | refine gC rfl ?_ | refine gD rfl ?_ | ((first | refine gE env hN (by kernel_rfl) ?_ | refine gF ?_ | refine gG ?_ | refine gH fun hlen => ?_ | refine gI (by kernel_rfl) ?_ | refine gN rfl ?_ | refine gN (by omega) ?_ | refine gJ rfl ?_ | refine gK (by omega) ?_ | refine gL (by omega) ?_ | refine gK rfl ?_ | refine gO ?_); conv => whnf))
  refine boolRes_split (fun hb => ?_) (fun hb => ?_) <;> conv => whnf
  · have hlt : i < l.length := by omega
    have hdr : l.drop i = l[i] :: l.drop (i + 1) := List.drop_eq_getElem_cons hlt
    have hs : sortK (keyAt k) (l.take (i + 1)) = insK (keyAt k) (sortK (keyAt k) (l.take i)) l[i] := by rw [List.take_succ_eq_append_getElem hlt, sortK_snoc (keyAt k)]
    have hPx := hk _ (List.getElem_mem hlt)
    have hPm : ∀ y ∈ sortK (keyAt k) (l.take i), k < y.length := fun y hy => hk y (List.mem_of_mem_take ((sortK_mem _ _ _).1 hy))
    have hpl : (sortK (keyAt k) (l.take i)).length = i := by rw [sortK_len]; simp; omega
    have hrl : (l.drop (i + 1)).length = l.length - (i + 1) := by simp
    have htot : sortK (keyAt k) (l.take i) ++ l.drop i = midK (sortK (keyAt k) (l.take i)) l[i] i (l.drop (i + 1)) := by
      have h2 := midK_end (sortK (keyAt k) (l.take i)) l[i] (l.drop (i + 1))
      rw [hpl] at h2
      rw [hdr, h2]
    have hend : sortK (keyAt k) (l.take (i + 1)) ++ l.drop (i + 1) = midK (sortK (keyAt k) (l.take i)) l[i] (placeK (keyAt k) (sortK (keyAt k) (l.take i)) ((keyAt k) l[i]) i) (l.drop (i + 1)) := by
      rw [hs]; unfold midK insK; rw [hpl]; simp
    rw [htot]
    generalize sortK (keyAt k) (l.take i) = P at *
    generalize l[i] = x at *
    repeat (first | refine gA ?_ | refine gB ?_ | refine gC rfl ?_ | refine gD rfl ?_ | ((first | refine gE env hN (by kernel_rfl) ?_ | refine gF ?_ | refine gG ?_ | refine gH fun hlen => ?_ | refine gI (by kernel_rfl) ?_ | refine gN rfl ?_ | refine gN (by omega) ?_ | refine gJ rfl ?_ | refine gK (by omega) ?_ | refine gL (by omega) ?_ | refine gK rfl ?_ | refine gO ?_); conv => whnf))
    refine W.loopG (fun n st => ∃ j : Nat, j ≤ i ∧ placeK (keyAt k) P ((keyAt k) x) i = placeK (keyAt k) P ((keyAt k) x) j ∧ n = j ∧ st = ⟨[(0, .osl 0 0 0 (lineRows l).length (lineRows l).length), (1, .int .i64 0), (2, .int .i64 (lineRows l).length), (3, .fn 91 [.ro [.int .i64 k] 0]), (8, .int .i64 i), (9, .int .i64 j)], [(0, [.rows 1 (lineRows (midK P x j (l.drop (i + 1)))) (some [])])], [0]⟩)
      i _ ⟨i, by omega, rfl, rfl, rfl⟩ ⟨[(0, 0)], [], [], LeG.mk' rfl rfl rfl (by repeat' (first | exact trivial | exact ⟨_, .refl _, rfl⟩ | apply And.intro)) (.cons 0 rfl rfl (.refl _) rfl .nil) rfl rfl (by rw [hK]; rfl)⟩ ?_
    rintro n st ⟨j, hj, hpj, hnj, rfl⟩
    have hmlen : (midK P x j (l.drop (i + 1))).length = l.length := by simp [midK]; omega
    have hml := lineRows_len (midK P x j (l.drop (i + 1)))
    repeat (first | refine gA ?_ | refine gB ?_ | refine gC rfl ?_ | refine gD rfl ?_ | ((first | refine gE env hN (by kernel_rfl) ?_ | refine gF ?_ | refine gG ?_ | refine gH fun hlen => ?_ | refine gI (by kernel_rfl) ?_ | refine gN rfl ?_ | refine gN (by omega) ?_ | refine gJ rfl ?_ | refine gK (by omega) ?_ | refine gL (by omega) ?_ | refine gK rfl ?_ | refine gO ?_); conv => whnf))
    refine boolRes_split (fun hb => ?_) (fun hb => ?_) <;> conv => whnf
    · obtain ⟨p, rfl⟩ : ∃ p, j = p + 1 := ⟨j - 1, by omega⟩
      have hpP : p < P.length := by omega
      have g1 : (midK P x (p + 1) (l.drop (i + 1)))[p + 1]? = some x := by
        unfold midK
        rw [List.getElem?_append_right (by simp; omega)]
        simp only [List.length_take]
        rw [show p + 1 - min (p + 1) P.length = 0 by omega]
        rfl
      have g2 : (midK P x (p + 1) (l.drop (i + 1)))[p]? = some P[p] := by
        unfold midK
        rw [List.getElem?_append_left (by simp; omega), List.getElem?_take]
        simp [hpP]
      have g3 : placeK (keyAt k) P ((keyAt k) x) (p + 1) = if Lib.compareBytes ((keyAt k) x) ((keyAt k) P[p]) < 0 then placeK (keyAt k) P ((keyAt k) x) p else p + 1 := by
        simp only [placeK, List.getElem?_eq_getElem hpP]
      have hsw : ((midK P x (p + 1) (l.drop (i + 1))).set (p + 1) P[p]).set p x = midK P x p (l.drop (i + 1)) := by
        have e1 : midK P x (p + 1) (l.drop (i + 1)) = P.take p ++ P[p] :: x :: (P.drop (p + 1) ++ (l.drop (i + 1))) := by unfold midK; rw [List.take_succ_eq_append_getElem hpP, List.append_assoc]; rfl
        have e2 : midK P x p (l.drop (i + 1)) = P.take p ++ x :: P[p] :: (P.drop (p + 1) ++ (l.drop (i + 1))) := by unfold midK; rw [List.drop_eq_getElem_cons hpP]; rfl
        have e3 : (P.take p).length = p := by simp; omega
        rw [e1, e2, List.set_append_right _ _ (by omega), List.set_append_right _ _ (by omega), e3, show p + 1 - p = 1 by omega, Nat.sub_self]
        rfl
      have r1 : (lineRows (midK P x (p + 1) (l.drop (i + 1))))[p + 1]? = some (lineV x) := by simp [lineRows, g1]
      have r2 : (lineRows (midK P x (p + 1) (l.drop (i + 1))))[p]? = some (lineV P[p]) := by simp [lineRows, g2]
      have hPp := hPm _ (List.getElem_mem hpP)
      have sp := byCol_spec k x P[p] hPx hPp
      generalize P[p] = y at *
      repeat (first | refine gA ?_ | refine gB ?_ | refine gC rfl ?_ | refine gD rfl ?_ | ((first | refine gE env hN (by kernel_rfl) ?_ | refine gF ?_ | refine gG ?_ | refine gH fun hlen => ?_ | refine gI (by kernel_rfl) ?_ | refine gN rfl ?_ | refine gN (by omega) ?_ | refine gJ rfl ?_ | refine gK (by omega) ?_ | refine gL (by omega) ?_ | refine gK rfl ?_ | refine gO ?_); conv => whnf))
      refine rowAt_of (by simpa using r1) ?_
      conv => whnf
      repeat (first | refine gA ?_ | refine gB ?_ | refine gC rfl ?_ | refine gD rfl ?_ | ((first | refine gE env hN (by kernel_rfl) ?_ | refine gF ?_ | refine gG ?_ | refine gH fun hlen => ?_ | refine gI (by kernel_rfl) ?_ | refine gN rfl ?_ | refine gN (by omega) ?_ | refine gJ rfl ?_ | refine gK (by omega) ?_ | refine gL (by omega) ?_ | refine gK rfl ?_ | refine gO ?_); conv => whnf))
      refine rowAt_of (r := (lineV y)) (by simpa using r2) ?_
      conv => whnf
      repeat (first | refine gA ?_ | refine gB ?_ | refine gC rfl ?_ | refine gD rfl ?_ | ((first | refine gE env hN (by kernel_rfl) ?_ | refine gF ?_ | refine gG ?_ | refine gH fun hlen => ?_ | refine gI (by kernel_rfl) ?_ | refine gN rfl ?_ | refine gN (by omega) ?_ | refine gJ rfl ?_ | refine gK (by omega) ?_ | refine gL (by omega) ?_ | refine gK rfl ?_ | refine gO ?_); conv => whnf))
      (refine ⟨_, _, _, callG [] [] [] rfl rfl rfl (by kernel_rfl) (sp) (by repeat' (first | exact trivial | exact Lent.refl _ | exact Lent.norm _ | apply And.intro)) rfl ⟨rfl, rfl, rfl, rfl, rfl, trivial, rfl, rfl⟩, ?_⟩; conv => whnf)
      repeat (first | refine gA ?_ | refine gB ?_ | refine gC rfl ?_ | refine gD rfl ?_ | ((first | refine gE env hN (by kernel_rfl) ?_ | refine gF ?_ | refine gG ?_ | refine gH fun hlen => ?_ | refine gI (by kernel_rfl) ?_ | refine gN rfl ?_ | refine gN (by omega) ?_ | refine gJ rfl ?_ | refine gK (by omega) ?_ | refine gL (by omega) ?_ | refine gK rfl ?_ | refine gO ?_); conv => whnf))
      refine boolRes_split (fun hb2 => ?_) (fun hb2 => ?_) <;> conv => whnf
      · rw [if_pos hb2] at g3
        repeat (first | refine gA ?_ | refine gB ?_ | refine gC rfl ?_ | refine gD rfl ?_ | ((first | refine gE env hN (by kernel_rfl) ?_ | refine gF ?_ | refine gG ?_ | refine gH fun hlen => ?_ | refine gI (by kernel_rfl) ?_ | refine gN rfl ?_ | refine gN (by omega) ?_ | refine gJ rfl ?_ | refine gK (by omega) ?_ | refine gL (by omega) ?_ | refine gK rfl ?_ | refine gO ?_); conv => whnf))
        refine rowAt_of (r := (lineV y)) (by simpa using r2) ?_
        conv => whnf
        repeat (first | refine gA ?_ | refine gB ?_ | refine gC rfl ?_ | refine gD rfl ?_ | ((first | refine gE env hN (by kernel_rfl) ?_ | refine gF ?_ | refine gG ?_ | refine gH fun hlen => ?_ | refine gI (by kernel_rfl) ?_ | refine gN rfl ?_ | refine gN (by omega) ?_ | refine gJ rfl ?_ | refine gK (by omega) ?_ | refine gL (by omega) ?_ | refine gK rfl ?_ | refine gO ?_); conv => whnf))
        refine rowAt_of (by simpa using r1) ?_
        conv => whnf
        repeat (first | refine gA ?_ | refine gB ?_ | refine gC rfl ?_ | refine gD rfl ?_ | ((first | refine gE env hN (by kernel_rfl) ?_ | refine gF ?_ | refine gG ?_ | refine gH fun hlen => ?_ | refine gI (by kernel_rfl) ?_ | refine gN rfl ?_ | refine gN (by omega) ?_ | refine gJ rfl ?_ | refine gK (by omega) ?_ | refine gL (by omega) ?_ | refine gK rfl ?_ | refine gO ?_); conv => whnf))
        refine rowAt_of (r := (lineV x)) (by simpa using r1) ?_
        conv => whnf
        repeat (first | refine gA ?_ | refine gB ?_ | refine gC rfl ?_ | refine gD rfl ?_ | ((first | refine gE env hN (by kernel_rfl) ?_ | refine gF ?_ | refine gG ?_ | refine gH fun hlen => ?_ | refine gI (by kernel_rfl) ?_ | refine gN rfl ?_ | refine gN (by omega) ?_ | refine gJ rfl ?_ | refine gK (by omega) ?_ | refine gL (by omega) ?_ | refine gK rfl ?_ | refine gO ?_); conv => whnf))
        refine ⟨by rw [List.length_set, hml]; omega, ⟨by omega, by omega⟩, ?_⟩
        conv => whnf
        repeat (first | refine gA ?_ | refine gB ?_ | refine gC rfl ?_ | refine gD rfl ?_ | ((first | refine gE env hN (by kernel_rfl) ?_ | refine gF ?_ | refine gG ?_ | refine gH fun hlen => ?_ | refine gI (by kernel_rfl) ?_ | refine gN rfl ?_ | refine gN (by omega) ?_ | refine gJ rfl ?_ | refine gK (by omega) ?_ | refine gL (by omega) ?_ | refine gK rfl ?_ | refine gO ?_); conv => whnf))
        refine ⟨by rw [List.length_set, hml]; omega, ?_⟩
        refine rowAt_of (r := (lineV y)) (by rw [List.getElem?_set]; split; (exfalso; omega); simpa using r2) ?_
        conv => whnf
        repeat (first | refine gA ?_ | refine gB ?_ | refine gC rfl ?_ | refine gD rfl ?_ | ((first | refine gE env hN (by kernel_rfl) ?_ | refine gF ?_ | refine gG ?_ | refine gH fun hlen => ?_ | refine gI (by kernel_rfl) ?_ | refine gN rfl ?_ | refine gN (by omega) ?_ | refine gJ rfl ?_ | refine gK (by omega) ?_ | refine gL (by omega) ?_ | refine gK rfl ?_ | refine gO ?_); conv => whnf))
        have hset : lineRows (midK P x p (l.drop (i + 1))) = ((lineRows (midK P x (p + 1) (l.drop (i + 1)))).set (0 + ((p + 1 : Nat) : Int).toNat) (lineV y)).set (0 + (((p + 1 : Nat) : Int) - 1).toNat) (lineV x) := by
          rw [← hsw, show 0 + ((p + 1 : Nat) : Int).toNat = p + 1 by omega, show 0 + (((p + 1 : Nat) : Int) - 1).toNat = p by omega]
          simp [lineRows, List.map_set]
        refine ⟨_, _, ?_, ⟨p, by omega, by rw [hpj, g3], rfl, rfl⟩, [(0, 0)], [], [], LeG.mk' rfl rfl rfl (by repeat' (first | exact trivial | exact ⟨_, .refl _, rfl⟩ | exact ⟨_, .refl _, congrArg (V.int .i64) (by omega)⟩ | apply And.intro)) (.cons 0 rfl rfl (.refl _) (congrArg (fun r => [Blk.rows 1 r (some [])]) hset) .nil) rfl rfl (by rw [hK]; rfl)⟩
        omega
      · have hpe : placeK (keyAt k) P ((keyAt k) x) (p + 1) = p + 1 := by rw [g3, if_neg hb2]
        rw [hpj, hpe] at hend
        repeat (first | refine gA ?_ | refine gB ?_ | refine gC rfl ?_ | refine gD rfl ?_ | ((first | refine gE env hN (by kernel_rfl) ?_ | refine gF ?_ | refine gG ?_ | refine gH fun hlen => ?_ | refine gI (by kernel_rfl) ?_ | refine gN rfl ?_ | refine gN (by omega) ?_ | refine gJ rfl ?_ | refine gK (by omega) ?_ | refine gL (by omega) ?_ | refine gK rfl ?_ | refine gO ?_); conv => whnf))
        refine ⟨_, _, ?_, ⟨i + 1, by omega, by omega, rfl, rfl⟩, [(0, 0)], [], [], LeG.mk' rfl rfl rfl (by repeat' (first | exact trivial | exact ⟨_, .refl _, rfl⟩ | apply And.intro)) (.cons 0 rfl rfl (.refl _) (congrArg (fun r => [Blk.rows 1 (lineRows r) (some [])]) hend) .nil) rfl rfl (by rw [hK]; rfl)⟩
        omega
    · skip
      have hj0 : j = 0 := by omega
      have hpe : placeK (keyAt k) P ((keyAt k) x) j = j := by rw [hj0]; rfl
      rw [hpj, hpe] at hend
      repeat (first | refine gA ?_ | refine gB ?_ | refine gC rfl ?_ | refine gD rfl ?_ | ((first | refine gE env hN (by kernel_rfl) ?_ | refine gF ?_ | refine gG ?_ | refine gH fun hlen => ?_ | refine gI (by kernel_rfl) ?_ | refine gN rfl ?_ | refine gN (by omega) ?_ | refine gJ rfl ?_ | refine gK (by omega) ?_ | refine gL (by omega) ?_ | refine gK rfl ?_ | refine gO ?_); conv => whnf))
      refine ⟨_, _, ?_, ⟨i + 1, by omega, by omega, rfl, rfl⟩, [(0, 0)], [], [], LeG.mk' rfl rfl rfl (by repeat' (first | exact trivial | exact ⟨_, .refl _, rfl⟩ | apply And.intro)) (.cons 0 rfl rfl (.refl _) (congrArg (fun r => [Blk.rows 1 (lineRows r) (some [])]) hend) .nil) rfl rfl (by rw [hK]; rfl)⟩
      omega
  · have hie : i = l.length := by omega
    have hfin : sortK (keyAt k) (l.take i) ++ l.drop i = sortK (keyAt k) l := by rw [hie, List.take_length, List.drop_length, List.append_nil]
    rw [hfin]
    repeat (first | refine gA ?_ | refine gB ?_ | refine gC rfl ?_ | refine gD rfl ?_ | ((first | refine gE env hN (by kernel_rfl) ?_ | refine gF ?_ | refine gG ?_ | refine gH fun hlen => ?_ | refine gI (by kernel_rfl) ?_ | refine gN rfl ?_ | refine gN (by omega) ?_ | refine gJ rfl ?_ | refine gK (by omega) ?_ | refine gL (by omega) ?_ | refine gK rfl ?_ | refine gO ?_); conv => whnf))
    exact retHn rfl (.refl _) rfl rfl rfl ⟨rfl, rfl, trivial⟩
set_option maxHeartbeats 8000000 in
theorem line_insertion0_spec (k : Nat) : Spec Tryd.prog 137 [.osl 0 0 0 0 0, .int .i64 0, .int .i64 0, .fn 91 [.ro [.int .i64 k] 0]] [(0, .rows 1 [] (some []))] (.tup []) [(0, .rows 1 [] (some []))] := by
  refine Spec.body env Tryd.func137 rfl (by kernel_rfl) (Nat.le_of_ble_eq_true (by kernel_rfl)) (keysSub rfl) fun Γ hN hK => ?_; have hML : maxLen = 9223372036854775807 := by unfold maxLen; rfl
  repeat (first | refine gA ?_ | refine gB ?_ | refine gC rfl ?_ | refine gD rfl ?_ | ((first | refine gE env hN (by kernel_rfl) ?_ | refine gF ?_ | refine gG ?_ | refine gH fun hlen => ?_ | refine gI (by kernel_rfl) ?_ | refine gN rfl ?_ | refine gN (by omega) ?_ | refine gJ rfl ?_ | refine gK (by omega) ?_ | refine gL (by omega) ?_ | refine gK rfl ?_ | refine gO ?_); conv => whnf))
  refine W.loopG (fun n st => n = 0 ∧ st = ⟨[(0, .osl 0 0 0 0 0), (1, .int .i64 0), (2, .int .i64 0), (3, .fn 91 [.ro [.int .i64 k] 0]), (8, .int .i64 1)], [(0, [.rows 1 [] (some [])])], [0]⟩)
    0 _ ⟨rfl, rfl⟩ ⟨[(0, 0)], [], [], LeG.mk' rfl rfl rfl (by repeat' (first | exact trivial | exact ⟨_, .refl _, rfl⟩ | apply And.intro)) (.cons 0 rfl rfl (.refl _) rfl .nil) rfl rfl (by rw [hK]; rfl)⟩ ?_
  rintro n st ⟨rfl, rfl⟩
  repeat (first | refine gA ?_ | refine gB ?_ | refine gC rfl ?_ | refine gD rfl ?_ | ((first | refine gE env hN (by kernel_rfl) ?_ | refine gF ?_ | refine gG ?_ | refine gH fun hlen => ?_ | refine gI (by kernel_rfl) ?_ | refine gN rfl ?_ | refine gN (by omega) ?_ | refine gJ rfl ?_ | refine gK (by omega) ?_ | refine gL (by omega) ?_ | refine gK rfl ?_ | refine gO ?_); conv => whnf))
  exact retHn rfl (.refl _) rfl rfl rfl ⟨rfl, rfl, trivial⟩
theorem line_insertionAny_spec (k : Nat) (l : List (List Cell)) (hn : l.length ≤ 12) (hk : ∀ r ∈ l, k < r.length) : Spec Tryd.prog 137 [.osl 0 0 0 (lineRows l).length (lineRows l).length, .int .i64 0, .int .i64 (lineRows l).length, .fn 91 [.ro [.int .i64 k] 0]] [(0, .rows 1 (lineRows l) (some []))] (.tup []) [(0, .rows 1 (lineRows (sortK (keyAt k) l)) (some []))] := by
  cases l with
  | nil => exact line_insertion0_spec k
  | cons x r => exact line_insertion_spec k _ (by simp) hn hk
set_option maxHeartbeats 8000000 in
theorem line_pdq_spec (k : Nat) (l : List (List Cell)) (lim : Int) (hn : l.length ≤ 12) (hk : ∀ r ∈ l, k < r.length) : Spec Tryd.prog 113 [.osl 0 0 0 (lineRows l).length (lineRows l).length, .int .i64 0, .int .i64 (lineRows l).length, .int .i64 lim, .fn 91 [.ro [.int .i64 k] 0]] [(0, .rows 1 (lineRows l) (some []))] (.tup []) [(0, .rows 1 (lineRows (sortK (keyAt k) l)) (some []))] := by
  have hll := lineRows_len l
  have sp := line_insertionAny_spec k l hn hk
  refine Spec.body env Tryd.func113 rfl (by kernel_rfl) (Nat.le_of_ble_eq_true (by kernel_rfl)) (keysSub rfl) fun Γ hN hK => ?_; have hML : maxLen = 9223372036854775807 := by unfold maxLen; rfl
  repeat (first | refine gA ?_ | refine gB ?_ | refine gC rfl ?_ | refine gD rfl ?_ | ((first | refine gE env hN (by kernel_rfl) ?_ | refine gF ?_ | refine gG ?_ | refine gH fun hlen => ?_ | refine gI (by kernel_rfl) ?_ | refine gN rfl ?_ | refine gN (by omega) ?_ | refine gJ rfl ?_ | refine gK (by omega) ?_ | refine gL (by omega) ?_ | refine gK rfl ?_ | refine gO ?_); conv => whnf))
  refine W.loopG (fun n st => n = 0 ∧ st = ⟨[(0, .osl 0 0 0 (lineRows l).length (lineRows l).length), (1, .int .i64 0), (2, .int .i64 (lineRows l).length), (3, .int .i64 lim), (4, .fn 91 [.ro [.int .i64 k] 0])], [(0, [.rows 1 (lineRows l) (some [])])], [0]⟩)
    0 _ ⟨rfl, rfl⟩ ⟨[(0, 0)], [], [], LeG.mk' rfl rfl rfl (by repeat' (first | exact trivial | exact ⟨_, .refl _, rfl⟩ | apply And.intro)) (.cons 0 rfl rfl (.refl _) rfl .nil) rfl rfl (by rw [hK]; rfl)⟩ ?_
  rintro n st ⟨rfl, rfl⟩
  repeat (first | refine gA ?_ | refine gB ?_ | refine gC rfl ?_ | refine gD rfl ?_ | ((first | refine gE env hN (by kernel_rfl) ?_ | refine gF ?_ | refine gG ?_ | refine gH fun hlen => ?_ | refine gI (by kernel_rfl) ?_ | refine gN rfl ?_ | refine gN (by omega) ?_ | refine gJ rfl ?_ | refine gK (by omega) ?_ | refine gL (by omega) ?_ | refine gK rfl ?_ | refine gO ?_); conv => whnf))
  (refine ⟨_, _, _, callG [(0, 0)] [] [] rfl rfl rfl (by kernel_rfl) (sp) (by repeat' (first | exact trivial | exact Lent.refl _ | exact Lent.norm _ | apply And.intro)) rfl ⟨rfl, rfl, rfl, rfl, rfl, by repeat' (first | exact trivial | rfl | apply And.intro), rfl, rfl⟩, ?_⟩; conv => whnf)
  repeat (first | refine gA ?_ | refine gB ?_ | refine gC rfl ?_ | refine gD rfl ?_ | ((first | refine gE env hN (by kernel_rfl) ?_ | refine gF ?_ | refine gG ?_ | refine gH fun hlen => ?_ | refine gI (by kernel_rfl) ?_ | refine gN rfl ?_ | refine gN (by omega) ?_ | refine gJ rfl ?_ | refine gK (by omega) ?_ | refine gL (by omega) ?_ | refine gK rfl ?_ | refine gO ?_); conv => whnf))
  (refine gM ?_; conv => whnf)
  exact retH rfl (.refl _) rfl rfl rfl ⟨rfl, rfl, trivial⟩
set_option maxHeartbeats 8000000 in
theorem line_sortFunc_spec (k : Nat) (l : List (List Cell)) (hn : l.length ≤ 12) (hk : ∀ r ∈ l, k < r.length) : Spec Tryd.prog 90 [.osl 0 0 0 (lineRows l).length (lineRows l).length, .fn 91 [.ro [.int .i64 k] 0]] [(0, .rows 1 (lineRows l) (some []))] (.tup []) [(0, .rows 1 (lineRows (sortK (keyAt k) l)) (some []))] := by
  have hll := lineRows_len l
  have sp1 := len_spec l.length hn
  have sp2 := line_pdq_spec k l (blen l.length) hn hk
  have hw : IntKind.u64.wrap ((lineRows l).length : Int) = l.length := by
    rw [hll]
    exact IntWalk.u64_in _ (by omega)
  rw [← hw] at sp1
  refine Spec.body env Tryd.func90 rfl (by kernel_rfl) (Nat.le_of_ble_eq_true (by kernel_rfl)) (keysSub rfl) fun Γ hN hK => ?_; have hML : maxLen = 9223372036854775807 := by unfold maxLen; rfl
  repeat (first | refine gA ?_ | refine gB ?_ | refine gC rfl ?_ | refine gD rfl ?_ | ((first | refine gE env hN (by kernel_rfl) ?_ | refine gF ?_ | refine gG ?_ | refine gH fun hlen => ?_ | refine gI (by kernel_rfl) ?_ | refine gN rfl ?_ | refine gN (by omega) ?_ | refine gJ rfl ?_ | refine gK (by omega) ?_ | refine gL (by omega) ?_ | refine gK rfl ?_ | refine gO ?_); conv => whnf))
  (refine ⟨_, _, _, callG [] [] [] rfl rfl rfl (by kernel_rfl) (sp1) (by repeat' (first | exact trivial | exact Lent.refl _ | exact Lent.norm _ | apply And.intro)) rfl ⟨rfl, rfl, rfl, rfl, rfl, trivial, rfl, rfl⟩, ?_⟩; conv => whnf)
  repeat (first | refine gA ?_ | refine gB ?_ | refine gC rfl ?_ | refine gD rfl ?_ | ((first | refine gE env hN (by kernel_rfl) ?_ | refine gF ?_ | refine gG ?_ | refine gH fun hlen => ?_ | refine gI (by kernel_rfl) ?_ | refine gN rfl ?_ | refine gN (by omega) ?_ | refine gJ rfl ?_ | refine gK (by omega) ?_ | refine gL (by omega) ?_ | refine gK rfl ?_ | refine gO ?_); conv => whnf))
  (refine ⟨_, _, _, callG [(0, 0)] [] [] rfl rfl rfl (by kernel_rfl) (sp2) (by repeat' (first | exact trivial | exact Lent.refl _ | exact Lent.norm _ | apply And.intro)) rfl ⟨rfl, rfl, rfl, rfl, rfl, by repeat' (first | exact trivial | rfl | apply And.intro), rfl, rfl⟩, ?_⟩; conv => whnf)
  repeat (first | refine gA ?_ | refine gB ?_ | refine gC rfl ?_ | refine gD rfl ?_ | ((first | refine gE env hN (by kernel_rfl) ?_ | refine gF ?_ | refine gG ?_ | refine gH fun hlen => ?_ | refine gI (by kernel_rfl) ?_ | refine gN rfl ?_ | refine gN (by omega) ?_ | refine gJ rfl ?_ | refine gK (by omega) ?_ | refine gL (by omega) ?_ | refine gK rfl ?_ | refine gO ?_); conv => whnf))
  exact retHn rfl (.refl _) rfl rfl rfl ⟨rfl, rfl, trivial⟩
end Go.Sx.Sp
namespace Go.Sx.Sp
open Go Go.Sx Go.Proofs
attribute [local irreducible] GoodW
theorem cmp_self : ∀ a : Str, Lib.compareBytes a a = 0
  | [] => rfl
  | x :: a => by unfold Lib.compareBytes; rw [if_neg (by simp), if_neg (by simp)]; exact cmp_self a
theorem cmp_eq : ∀ {a b : Str}, Lib.compareBytes a b = 0 → a = b
  | [], [], _ => rfl
  | [], _ :: _, h => by simp [Lib.compareBytes] at h
  | _ :: _, [], h => by simp [Lib.compareBytes] at h
  | x :: a, y :: b, h => by
    unfold Lib.compareBytes at h
    split at h
    · cases h
    · split at h
      · cases h
      · rename_i h1 h2
        have : x = y := by
          rw [UInt8.lt_iff_toNat_lt] at h1 h2
          exact UInt8.toNat_inj.1 (by omega)
        rw [this, cmp_eq h]
theorem cmp_neg : ∀ a b : Str, Lib.compareBytes b a = - Lib.compareBytes a b
  | [], [] => rfl
  | [], _ :: _ => rfl
  | _ :: _, [] => rfl
  | x :: a, y :: b => by
    unfold Lib.compareBytes
    by_cases h1 : x < y
    · have h2 : ¬ y < x := by rw [UInt8.lt_iff_toNat_lt] at *; omega
      simp [h1, h2]
    · by_cases h2 : y < x
      · simp [h1, h2]
      · simp [h1, h2, cmp_neg a b]
theorem cmp_trans : ∀ {a b c : Str}, Lib.compareBytes a b < 0 → Lib.compareBytes b c < 0 → Lib.compareBytes a c < 0
  | [], [], _, h, _ => by simp [Lib.compareBytes] at h
  | [], _ :: _, [], _, h => by simp [Lib.compareBytes] at h
  | [], _ :: _, _ :: _, _, _ => by simp [Lib.compareBytes]
  | _ :: _, [], _, h, _ => by simp [Lib.compareBytes] at h
  | _ :: _, _ :: _, [], _, h => by simp [Lib.compareBytes] at h
  | x :: a, y :: b, z :: c, h, g => by
    unfold Lib.compareBytes at h g ⊢
    by_cases h1 : x < y
    · by_cases g1 : y < z
      · rw [if_pos (by rw [UInt8.lt_iff_toNat_lt] at *; omega)]; decide
      · rw [if_neg g1] at g
        split at g
        · simp at g
        · rename_i g2
          rw [if_pos (by rw [UInt8.lt_iff_toNat_lt] at *; omega)]; decide
    · rw [if_neg h1] at h
      split at h
      · simp at h
      · rename_i h2
        by_cases g1 : y < z
        · rw [if_pos (by rw [UInt8.lt_iff_toNat_lt] at *; omega)]; decide
        · rw [if_neg g1] at g
          split at g
          · simp at g
          · rename_i g2
            rw [if_neg (by rw [UInt8.lt_iff_toNat_lt] at *; omega), if_neg (by rw [UInt8.lt_iff_toNat_lt] at *; omega)]
            exact cmp_trans h g
section
variable {α : Type} (key : α → Str)
def AscK (l : List α) : Prop := l.Pairwise fun a b => Lib.compareBytes (key a) (key b) < 0
variable {key}
theorem ascK_ext : ∀ {a b : List α}, AscK key a → AscK key b → (∀ t, t ∈ a ↔ t ∈ b) → a = b
  | [], [], _, _, _ => rfl
  | [], y :: b, _, _, h => by have := (h y).2 (by simp); cases this
  | x :: a, [], _, _, h => by have := (h x).1 (by simp); cases this
  | x :: a, y :: b, ha, hb, h => by
    obtain ⟨ha1, ha2⟩ := List.pairwise_cons.1 ha
    obtain ⟨hb1, hb2⟩ := List.pairwise_cons.1 hb
    have hirr : ∀ {u v : α}, Lib.compareBytes (key u) (key v) < 0 → Lib.compareBytes (key v) (key u) < 0 → False := fun h1 h2 => by
      rw [cmp_neg] at h2; omega
    have hself : ∀ {u : α}, Lib.compareBytes (key u) (key u) < 0 → False := fun h1 => by rw [cmp_self] at h1; omega
    have hxy : x = y := by
      rcases List.mem_cons.1 ((h x).1 (by simp)) with e | e
      · exact e
      · rcases List.mem_cons.1 ((h y).2 (by simp)) with e' | e'
        · exact e'.symm
        · exact (hirr (hb1 x e) (ha1 y e')).elim
    subst hxy
    congr 1
    refine ascK_ext ha2 hb2 fun t => ⟨fun ht => ?_, fun ht => ?_⟩
    · rcases List.mem_cons.1 ((h t).1 (List.mem_cons_of_mem _ ht)) with e | e
      · subst e; exact (hself (ha1 _ ht)).elim
      · exact e
    · rcases List.mem_cons.1 ((h t).2 (List.mem_cons_of_mem _ ht)) with e | e
      · subst e; exact (hself (hb1 _ ht)).elim
      · exact e
theorem placeK_spec (l : List α) (t : Str) : ∀ n, n ≤ l.length → (∀ j (h : j < l.length), placeK key l t n ≤ j → j < n → Lib.compareBytes t (key l[j]) < 0) ∧ (∀ j (h : j < l.length), placeK key l t n = j + 1 → ¬ Lib.compareBytes t (key l[j]) < 0)
  | 0, _ => ⟨fun j _ _ h => by omega, fun j _ h => by simp [placeK] at h⟩
  | n + 1, hn => by
    have hg : l[n]? = some l[n] := List.getElem?_eq_getElem (by omega)
    obtain ⟨h1, h2⟩ := placeK_spec l t n (by omega)
    simp only [placeK, hg]
    split
    · rename_i hlt
      refine ⟨fun j hj hk hjn => ?_, h2⟩
      by_cases e : j = n
      · subst e; exact hlt
      · exact h1 j hj hk (by omega)
    · rename_i hge
      refine ⟨fun j hj hk hjn => by omega, fun j hj hk => ?_⟩
      have : j = n := by omega
      subst this; exact hge
theorem insK_asc {l : List α} (h : AscK key l) {x : α} (hn : ∀ y ∈ l, key y ≠ key x) : AscK key (insK key l x) := by
  obtain ⟨h1, h2⟩ := placeK_spec (key := key) l (key x) l.length (Nat.le_refl _)
  have hle := placeK_le key l (key x) l.length
  have below : ∀ k (hk : k < l.length), k < placeK key l (key x) l.length → Lib.compareBytes (key l[k]) (key x) < 0 := fun k hk hki => by
    obtain ⟨p, hp⟩ : ∃ p, placeK key l (key x) l.length = p + 1 := ⟨placeK key l (key x) l.length - 1, by omega⟩
    have h3 := h2 p (by omega) hp
    have hne := hn _ (List.getElem_mem (show p < l.length by omega))
    have h4 : Lib.compareBytes (key l[p]) (key x) < 0 := by
      rw [cmp_neg]
      have h6 : Lib.compareBytes (key x) (key l[p]) ≠ 0 := fun e => hne (cmp_eq e).symm
      omega
    by_cases e : k = p
    · subst e; exact h4
    · exact cmp_trans ((List.pairwise_iff_getElem.1 h) k p hk (by omega) (by omega)) h4
  unfold AscK insK
  rw [List.pairwise_append]
  refine ⟨h.sublist (List.take_sublist _ _), List.pairwise_cons.2 ⟨fun y hy => ?_, h.sublist (List.drop_sublist _ _)⟩, fun a ha b hb => ?_⟩
  · obtain ⟨k, hk, rfl⟩ := List.mem_iff_getElem.1 hy
    simp only [List.length_drop] at hk
    rw [List.getElem_drop]
    exact h1 _ (by omega) (by omega) (by omega)
  · obtain ⟨k, hk, rfl⟩ := List.mem_iff_getElem.1 ha
    simp only [List.length_take] at hk
    rw [List.getElem_take]
    have h3 := below k (by omega) (by omega)
    rcases List.mem_cons.1 hb with rfl | hb
    · exact h3
    · obtain ⟨q, hq, rfl⟩ := List.mem_iff_getElem.1 hb
      simp only [List.length_drop] at hq
      rw [List.getElem_drop]
      exact cmp_trans h3 (h1 _ (by omega) (by omega) (by omega))
def DistK (key : α → Str) (l : List α) : Prop := l.Pairwise fun a b => key a ≠ key b
theorem sortK_asc {l : List α} (h : DistK key l) : AscK key (sortK key l) := by
  have go : ∀ (l s : List α), AscK key s → (∀ y ∈ s, ∀ x ∈ l, key y ≠ key x) → DistK key l → AscK key (l.foldl (insK key) s) := by
    intro l
    induction l with
    | nil => intro s hs _ _; exact hs
    | cons x l ih =>
      intro s hs hd hp
      obtain ⟨p1, p2⟩ := List.pairwise_cons.1 hp
      rw [List.foldl_cons]
      refine ih _ (insK_asc hs fun y hy => hd y hy x (by simp)) (fun y hy z hz => ?_) p2
      rcases (insK_iff key _ _ _).1 hy with hy | rfl
      · exact hd y hy z (List.mem_cons_of_mem _ hz)
      · exact p1 z hz
  exact go l [] List.Pairwise.nil (fun y hy => by cases hy) h
theorem sortK_one {l m : List α} (h : DistK key l) (g : DistK key m) (hm : ∀ x, x ∈ l ↔ x ∈ m) : sortK key l = sortK key m :=
  ascK_ext (sortK_asc h) (sortK_asc g) fun t => by rw [sortK_mem, sortK_mem, hm]
end
set_option maxHeartbeats 4000000 in
theorem sorted_spec (D : List Cell) (A : List (List Cell)) (k : Nat) (hD : D.length ≤ 12) (hA : A.length ≤ 12) (hk : ∀ r ∈ A, k < r.length) :
    Spec Tryd.prog 52 [.agg [.osl 0 0 0 (cellRows D).length (cellRows D).length, .osl 1 0 0 (lineRows A).length (lineRows A).length], .int .i64 k] [(0, .rows 2 (cellRows D) (some [])), (1, .rows 1 (lineRows A) (some []))]
      (.agg [.osl 0 0 0 (cellRows D).length (cellRows D).length, .osl 1 0 0 (lineRows A).length (lineRows A).length]) [(0, .rows 2 (cellRows (sortK Cell.text D)) (some [])), (1, .rows 1 (lineRows (sortK (keyAt k) A)) (some []))] := by
  have sp1 := cell_sortFunc_spec D hD
  have sp2 := line_sortFunc_spec k A hA hk
  refine Spec.body env Tryd.func52 rfl (by kernel_rfl) (Nat.le_of_ble_eq_true (by kernel_rfl)) (keysSub rfl) fun Γ hN hK => ?_; have hML : maxLen = 9223372036854775807 := by unfold maxLen; rfl
  repeat (first | refine gA ?_ | refine gB ?_ | refine gC rfl ?_ | refine gD rfl ?_ | ((first | refine gE env hN (by kernel_rfl) ?_ | refine gF ?_ | refine gG ?_ | refine gH fun hlen => ?_ | refine gI (by kernel_rfl) ?_ | refine gN rfl ?_ | refine gN (by omega) ?_ | refine gJ rfl ?_ | refine gK (by omega) ?_ | refine gL (by omega) ?_ | refine gK rfl ?_ | refine gO ?_); conv => whnf))
  (refine ⟨_, _, _, callG [(0, 0)] [] [] rfl rfl rfl (by kernel_rfl) (sp1) (by repeat' (first | exact trivial | exact Lent.refl _ | exact Lent.norm _ | apply And.intro)) rfl ⟨rfl, rfl, rfl, rfl, rfl, by repeat' (first | exact trivial | rfl | apply And.intro), rfl, rfl⟩, ?_⟩; conv => whnf)
  repeat ((first | refine gI (by kernel_rfl) ?_ | refine gH fun hlen => ?_ | refine gN rfl ?_ | refine gN (by omega) ?_ | refine gJ rfl ?_ | refine gK (by omega) ?_ | refine gL (by omega) ?_ | refine gK rfl ?_ | refine gO ?_); conv => whnf)
  refine gA ?_
  refine W.leG (mp := [(0, 0), (1, 1), (2, 2), (4, 4)]) (bo := [3]) (st' := ⟨[(2, .bp 2 0), (3, .ro [.int .i64 k] 0), (4, .bp 4 0)], [(0, [.rows 2 (cellRows (sortK Cell.text D)) (some [])]), (1, [.rows 1 (lineRows A) (some [])]), (2, [.rows 2 [[.osl 0 0 0 (cellRows D).length (cellRows D).length, .osl 1 0 0 (lineRows A).length (lineRows A).length]] none]), (4, [.rows 2 [[.nils, .nils]] none])], [0, 1, 2, 4]⟩)
    (LeG.mk' rfl rfl rfl ⟨⟨_, .refl _, rfl⟩, ⟨_, .bp 3 0 1 [.int .i64 k] none rfl rfl (by simp) (.inr rfl), rfl⟩, ⟨_, .refl _, rfl⟩, trivial⟩ (.cons 0 rfl rfl (.refl _) rfl (.cons 1 rfl rfl (.refl _) rfl (.cons 2 rfl rfl (.refl _) rfl (.cons 4 rfl rfl (.refl _) rfl .nil)))) rfl rfl (by rw [hK]; rfl)) ?_
  repeat (first | refine gA ?_ | refine gB ?_ | refine gC rfl ?_ | refine gD rfl ?_ | ((first | refine gE env hN (by kernel_rfl) ?_ | refine gF ?_ | refine gG ?_ | refine gH fun hlen => ?_ | refine gI (by kernel_rfl) ?_ | refine gN rfl ?_ | refine gN (by omega) ?_ | refine gJ rfl ?_ | refine gK (by omega) ?_ | refine gL (by omega) ?_ | refine gK rfl ?_ | refine gO ?_); conv => whnf))
  (refine ⟨_, _, _, callG [(0, 1)] [] [] rfl rfl rfl (by kernel_rfl) (sp2) (by repeat' (first | exact trivial | exact Lent.refl _ | exact Lent.norm _ | apply And.intro)) rfl ⟨rfl, rfl, rfl, rfl, rfl, by repeat' (first | exact trivial | rfl | apply And.intro), rfl, rfl⟩, ?_⟩; conv => whnf)
  repeat (first | refine gA ?_ | refine gB ?_ | refine gC rfl ?_ | refine gD rfl ?_ | ((first | refine gE env hN (by kernel_rfl) ?_ | refine gF ?_ | refine gG ?_ | refine gH fun hlen => ?_ | refine gI (by kernel_rfl) ?_ | refine gN rfl ?_ | refine gN (by omega) ?_ | refine gJ rfl ?_ | refine gK (by omega) ?_ | refine gL (by omega) ?_ | refine gK rfl ?_ | refine gO ?_); conv => whnf))
  (refine gM ?_; conv => whnf)
  exact retH rfl (.refl _) rfl rfl rfl ⟨rfl, rfl, rfl, rfl, trivial⟩
end Go.Sx.Sp
namespace Go.Sx.Sp
open Go Go.Sx Go.Proofs
attribute [local irreducible] GoodW
def inB (key : Int) (t : Table) : Bool := decide (0 ≤ key ∧ key < t.cols.length)
def colK (t : Table) (k : Nat) : List Cell := (t.cols.getD k ⟨[], []⟩).cells
def checkM (key : Int) (ts : List Table) : Int := if ts.all (inB key) = true then (if ts.all (fun t => keyB (colK t key.toNat)) = true then 0 else 20) else 2
theorem all_snoc {α : Type} (p : α → Bool) {l : List α} {j : Nat} (h : j < l.length) : (l.take (j + 1)).all p = ((l.take j).all p && p l[j]) := by
  rw [List.take_succ_eq_append_getElem h, List.all_append]; simp
theorem all_false {α : Type} {p : α → Bool} {l : List α} {j : Nat} (h : j < l.length) (hp : p l[j] = false) : l.all p = false := by
  rw [List.all_eq_false]; exact ⟨_, List.getElem_mem h, by simp [hp]⟩
set_option maxHeartbeats 4000000 in
theorem check_spec (key : Int) (ts : List Table) : Spec Tryd.prog 48 [.int .i64 key, .sl (tblRows ts) false] [] (.int .i64 (checkM key ts)) [] := by
  have hl := tblRows_len ts
  refine Spec.body env Tryd.func48 rfl (by kernel_rfl) (Nat.le_of_ble_eq_true (by kernel_rfl)) (keysSub rfl) fun Γ hN hK => ?_; have hML : maxLen = 9223372036854775807 := by unfold maxLen; rfl
  repeat (first | refine gA ?_ | refine gB ?_ | refine gC rfl ?_ | refine gD rfl ?_ | ((first | refine gE env hN (by kernel_rfl) ?_ | refine gF ?_ | refine gG ?_ | refine gH fun hlen => ?_ | refine gI (by kernel_rfl) ?_ | refine gN rfl ?_ | refine gN (by omega) ?_ | refine gJ rfl ?_ | refine gK (by omega) ?_ | refine gL (by omega) ?_ | refine gK rfl ?_ | refine gO ?_); conv => whnf))
  refine W.loopG (fun n st => ∃ j : Nat, j ≤ ts.length ∧ (ts.take j).all (inB key) = true ∧ n = ts.length - j ∧ st = ⟨[(0, .int .i64 key), (1, .sl (tblRows ts) false), (9, .sl (tblRows ts) false), (10, .int .i64 (tblRows ts).length), (11, .int .i64 j)], [], []⟩)
    ts.length _ ⟨0, by omega, rfl, by omega, rfl⟩ ⟨[], [], [], LeG.mk' rfl rfl rfl (by repeat' (first | exact trivial | exact ⟨_, .refl _, rfl⟩ | apply And.intro)) .nil rfl rfl (by rw [hK]; rfl)⟩ ?_
  rintro n st ⟨j, hj, hall, rfl, rfl⟩
  repeat (first | refine gA ?_ | refine gB ?_ | refine gC rfl ?_ | refine gD rfl ?_ | ((first | refine gE env hN (by kernel_rfl) ?_ | refine gF ?_ | refine gG ?_ | refine gH fun hlen => ?_ | refine gI (by kernel_rfl) ?_ | refine gN rfl ?_ | refine gN (by omega) ?_ | refine gJ rfl ?_ | refine gK (by omega) ?_ | refine gL (by omega) ?_ | refine gK rfl ?_ | refine gO ?_); conv => whnf))
  refine boolRes_split (fun hb => ?_) (fun hb => ?_) <;> conv => whnf
  · have hlt : j < ts.length := by omega
    have hg := tblRows_get hlt
    have hsn := all_snoc (inB key) hlt
    have hcl := colRows_len ts[j].cols
    have hbad : inB key ts[j] = false → (2 : Int) = checkM key ts := fun h => by
      unfold checkM; rw [all_false hlt h]; rfl
    repeat (first | refine gA ?_ | refine gB ?_ | refine gC rfl ?_ | refine gD rfl ?_ | ((first | refine gE env hN (by kernel_rfl) ?_ | refine gF ?_ | refine gG ?_ | refine gH fun hlen => ?_ | refine gI (by kernel_rfl) ?_ | refine gN rfl ?_ | refine gN (by omega) ?_ | refine gJ rfl ?_ | refine gK (by omega) ?_ | refine gL (by omega) ?_ | refine gK rfl ?_ | refine gO ?_); conv => whnf))
    refine rowAt_of (by simpa using hg) ?_
    conv => whnf
    repeat (first | refine gA ?_ | refine gB ?_ | refine gC rfl ?_ | refine gD rfl ?_ | ((first | refine gE env hN (by kernel_rfl) ?_ | refine gF ?_ | refine gG ?_ | refine gH fun hlen => ?_ | refine gI (by kernel_rfl) ?_ | refine gN rfl ?_ | refine gN (by omega) ?_ | refine gJ rfl ?_ | refine gK (by omega) ?_ | refine gL (by omega) ?_ | refine gK rfl ?_ | refine gO ?_); conv => whnf))
    refine boolRes_split (fun hb => ?_) (fun hb => ?_) <;> conv => whnf
    · repeat (first | refine gA ?_ | refine gB ?_ | refine gC rfl ?_ | refine gD rfl ?_ | ((first | refine gE env hN (by kernel_rfl) ?_ | refine gF ?_ | refine gG ?_ | refine gH fun hlen => ?_ | refine gI (by kernel_rfl) ?_ | refine gN rfl ?_ | refine gN (by omega) ?_ | refine gJ rfl ?_ | refine gK (by omega) ?_ | refine gL (by omega) ?_ | refine gK rfl ?_ | refine gO ?_ | refine gM ?_); conv => whnf))
      exact ret0 rfl (congrArg (V.int .i64) (hbad (by unfold inB; rw [decide_eq_false]; omega))) rfl
    · repeat (first | refine gA ?_ | refine gB ?_ | refine gC rfl ?_ | refine gD rfl ?_ | ((first | refine gE env hN (by kernel_rfl) ?_ | refine gF ?_ | refine gG ?_ | refine gH fun hlen => ?_ | refine gI (by kernel_rfl) ?_ | refine gN rfl ?_ | refine gN (by omega) ?_ | refine gJ rfl ?_ | refine gK (by omega) ?_ | refine gL (by omega) ?_ | refine gK rfl ?_ | refine gO ?_); conv => whnf))
      refine boolRes_split (fun hb => ?_) (fun hb => ?_) <;> conv => whnf
      · repeat (first | refine gA ?_ | refine gB ?_ | refine gC rfl ?_ | refine gD rfl ?_ | ((first | refine gE env hN (by kernel_rfl) ?_ | refine gF ?_ | refine gG ?_ | refine gH fun hlen => ?_ | refine gI (by kernel_rfl) ?_ | refine gN rfl ?_ | refine gN (by omega) ?_ | refine gJ rfl ?_ | refine gK (by omega) ?_ | refine gL (by omega) ?_ | refine gK rfl ?_ | refine gO ?_ | refine gM ?_); conv => whnf))
        exact ret0 rfl (congrArg (V.int .i64) (hbad (by unfold inB; rw [decide_eq_false]; omega))) rfl
      · repeat (first | refine gA ?_ | refine gB ?_ | refine gC rfl ?_ | refine gD rfl ?_ | ((first | refine gE env hN (by kernel_rfl) ?_ | refine gF ?_ | refine gG ?_ | refine gH fun hlen => ?_ | refine gI (by kernel_rfl) ?_ | refine gN rfl ?_ | refine gN (by omega) ?_ | refine gJ rfl ?_ | refine gK (by omega) ?_ | refine gL (by omega) ?_ | refine gK rfl ?_ | refine gO ?_); conv => whnf))
        refine ⟨_, _, ?_, ⟨j + 1, by omega, by rw [hsn, hall]; unfold inB; simp; omega, rfl, rfl⟩, ⟨[], [], [], LeG.mk' rfl rfl rfl (by repeat' (first | exact trivial | exact ⟨_, .refl _, rfl⟩ | apply And.intro)) .nil rfl rfl (by rw [hK]; rfl)⟩⟩
        omega
  · have hje : j = ts.length := by omega
    rw [hje, List.take_length] at hall
    repeat (first | refine gA ?_ | refine gB ?_ | refine gC rfl ?_ | refine gD rfl ?_ | ((first | refine gE env hN (by kernel_rfl) ?_ | refine gF ?_ | refine gG ?_ | refine gH fun hlen => ?_ | refine gI (by kernel_rfl) ?_ | refine gN rfl ?_ | refine gN (by omega) ?_ | refine gJ rfl ?_ | refine gK (by omega) ?_ | refine gL (by omega) ?_ | refine gK rfl ?_ | refine gO ?_); conv => whnf))
    refine W.loopG (fun n st => ∃ j : Nat, j ≤ ts.length ∧ (ts.take j).all (fun t => keyB (colK t key.toNat)) = true ∧ n = ts.length - j ∧ st = ⟨[(0, .int .i64 key), (25, .sl (tblRows ts) false), (26, .int .i64 (tblRows ts).length), (27, .int .i64 j)], [], []⟩)
      ts.length _ ⟨0, by omega, rfl, by omega, rfl⟩ ⟨[], [], [], LeG.mk' rfl rfl rfl (by repeat' (first | exact trivial | exact ⟨_, .refl _, rfl⟩ | apply And.intro)) .nil rfl rfl (by rw [hK]; rfl)⟩ ?_
    rintro n st ⟨j, hj, hall2, rfl, rfl⟩
    repeat (first | refine gA ?_ | refine gB ?_ | refine gC rfl ?_ | refine gD rfl ?_ | ((first | refine gE env hN (by kernel_rfl) ?_ | refine gF ?_ | refine gG ?_ | refine gH fun hlen => ?_ | refine gI (by kernel_rfl) ?_ | refine gN rfl ?_ | refine gN (by omega) ?_ | refine gJ rfl ?_ | refine gK (by omega) ?_ | refine gL (by omega) ?_ | refine gK rfl ?_ | refine gO ?_); conv => whnf))
    refine boolRes_split (fun hb => ?_) (fun hb => ?_) <;> conv => whnf
    · have hlt : j < ts.length := by omega
      have hg := tblRows_get hlt
      have hsn := all_snoc (fun t => keyB (colK t key.toNat)) hlt
      have hin := List.all_eq_true.1 hall _ (List.getElem_mem hlt)
      have hbad : keyB (colK ts[j] key.toNat) = false → (20 : Int) = checkM key ts := fun h => by
        unfold checkM; rw [if_pos hall, all_false (p := fun t => keyB (colK t key.toNat)) hlt h]; rfl
      unfold inB at hin
      have hin := of_decide_eq_true hin
      obtain ⟨k, rfl⟩ : ∃ k : Nat, key = k := ⟨key.toNat, by omega⟩
      have hkl : k < ts[j].cols.length := by omega
      have hck : colK ts[j] k = ts[j].cols[k].cells := by simp [colK, hkl]
      have sp := isKey_spec ts[j] k hkl
      simp only [Int.toNat_natCast] at hsn hbad
      rw [← hck] at sp
      generalize ts[j] = t at *
      repeat (first | refine gA ?_ | refine gB ?_ | refine gC rfl ?_ | refine gD rfl ?_ | ((first | refine gE env hN (by kernel_rfl) ?_ | refine gF ?_ | refine gG ?_ | refine gH fun hlen => ?_ | refine gI (by kernel_rfl) ?_ | refine gN rfl ?_ | refine gN (by omega) ?_ | refine gJ rfl ?_ | refine gK (by omega) ?_ | refine gL (by omega) ?_ | refine gK rfl ?_ | refine gO ?_); conv => whnf))
      refine rowAt_of (by simpa using hg) ?_
      conv => whnf
      repeat (first | refine gA ?_ | refine gB ?_ | refine gC rfl ?_ | refine gD rfl ?_ | ((first | refine gE env hN (by kernel_rfl) ?_ | refine gF ?_ | refine gG ?_ | refine gH fun hlen => ?_ | refine gI (by kernel_rfl) ?_ | refine gN rfl ?_ | refine gN (by omega) ?_ | refine gJ rfl ?_ | refine gK (by omega) ?_ | refine gL (by omega) ?_ | refine gK rfl ?_ | refine gO ?_); conv => whnf))
      cases hb2 : keyB (colK t k) with
      | true =>
        rw [hb2] at sp
        (refine ⟨_, _, _, callG [] [] [] rfl rfl rfl (by kernel_rfl) (sp) (by repeat' (first | exact trivial | exact Lent.refl _ | exact Lent.norm _ | apply And.intro)) rfl ⟨rfl, rfl, rfl, rfl, rfl, trivial, rfl, rfl⟩, ?_⟩; conv => whnf)
        repeat (first | refine gA ?_ | refine gB ?_ | refine gC rfl ?_ | refine gD rfl ?_ | ((first | refine gE env hN (by kernel_rfl) ?_ | refine gF ?_ | refine gG ?_ | refine gH fun hlen => ?_ | refine gI (by kernel_rfl) ?_ | refine gN rfl ?_ | refine gN (by omega) ?_ | refine gJ rfl ?_ | refine gK (by omega) ?_ | refine gL (by omega) ?_ | refine gK rfl ?_ | refine gO ?_); conv => whnf))
        refine ⟨_, _, ?_, ⟨j + 1, by omega, by simp only [Int.toNat_natCast]; rw [hsn, hb2]; simpa using hall2, rfl, rfl⟩, ⟨[], [], [], LeG.mk' rfl rfl rfl (by repeat' (first | exact trivial | exact ⟨_, .refl _, rfl⟩ | apply And.intro)) .nil rfl rfl (by rw [hK]; rfl)⟩⟩
        omega
      | false =>
        rw [hb2] at sp
        (refine ⟨_, _, _, callG [] [] [] rfl rfl rfl (by kernel_rfl) (sp) (by repeat' (first | exact trivial | exact Lent.refl _ | exact Lent.norm _ | apply And.intro)) rfl ⟨rfl, rfl, rfl, rfl, rfl, trivial, rfl, rfl⟩, ?_⟩; conv => whnf)
        repeat (first | refine gA ?_ | refine gB ?_ | refine gC rfl ?_ | refine gD rfl ?_ | ((first | refine gE env hN (by kernel_rfl) ?_ | refine gF ?_ | refine gG ?_ | refine gH fun hlen => ?_ | refine gI (by kernel_rfl) ?_ | refine gN rfl ?_ | refine gN (by omega) ?_ | refine gJ rfl ?_ | refine gK (by omega) ?_ | refine gL (by omega) ?_ | refine gK rfl ?_ | refine gO ?_ | refine gM ?_); conv => whnf))
        exact ret0 rfl (congrArg (V.int .i64) (hbad hb2)) rfl
    · have hje2 : j = ts.length := by omega
      rw [hje2, List.take_length] at hall2
      repeat (first | refine gA ?_ | refine gB ?_ | refine gC rfl ?_ | refine gD rfl ?_ | ((first | refine gE env hN (by kernel_rfl) ?_ | refine gF ?_ | refine gG ?_ | refine gH fun hlen => ?_ | refine gI (by kernel_rfl) ?_ | refine gN rfl ?_ | refine gN (by omega) ?_ | refine gJ rfl ?_ | refine gK (by omega) ?_ | refine gL (by omega) ?_ | refine gK rfl ?_ | refine gO ?_ | refine gM ?_); conv => whnf))
      exact ret0 rfl (congrArg (V.int .i64) (by unfold checkM; rw [if_pos hall, if_pos hall2])) rfl
structure Delta where
  drop : List Cell
  add : List (List Cell)
  deriving DecidableEq
def Delta.row (d : Delta) : List V := [.sl (cellRows d.drop) false, .sl (lineRows d.add) false]
def Delta.zero : Delta := ⟨[], []⟩
def cellI (cs : List Cell) (i : Nat) : Cell := cs.getD i ⟨false, []⟩
def diffB (a b : Table) (k : Nat) (t : Str) (i : Nat) : Bool :=
  match ixS t (textsOf (colK b k)) with
  | none => true
  | some j => decide (rowM a i ≠ rowM b j)
def dropOf (a b : Table) (k : Nat) (seen : List Nat) : List Cell := (seen.filter fun i => diffB a b k (cellI (colK a k) i).text i).map (cellI (colK a k))
def addOf (a b : Table) (k : Nat) (seen : List Nat) : List (List Cell) := (seen.filter fun i => diffB b a k (cellI (colK b k) i).text i).map (rowM b)
def diffM (a b : Table) (k : Nat) : Delta := ⟨sortK Cell.text (dropOf a b k (List.range (colK a k).length)), sortK (keyAt k) (addOf a b k (List.range (colK b k).length))⟩
def ofM (a b : Table) (key : Int) : Delta × Int :=
  if validB a = true ∧ validB b = true ∧ namesOf a.cols = namesOf b.cols then
    if checkM key [a, b] = 0 then (diffM a b key.toNat, 0) else (Delta.zero, checkM key [a, b])
  else (Delta.zero, 1)
theorem valid_cells {t : Table} (h : validB t = true) : ∀ c ∈ t.cols, c.cells.length = rowsN t := by
  simp only [validB, headB, Bool.and_eq_true, decide_eq_true_eq, Bool.not_eq_true', List.any_eq_false] at h
  intro c hc
  have h6 := h.2 c hc
  simp only [badCol, Bool.or_eq_true, decide_eq_true_eq, not_or, Decidable.not_not] at h6
  omega
theorem ixMap_get {l : List Str} {j b : Nat} {kk v : V} (h : (ixMap l)[j]? = some (b, kk, v)) : ∃ hj : j < l.length, b = j ∧ kk = .str l[j] ∧ v = .int .i64 (j : Nat) := by
  have key : ∀ (l : List Str) (k j : Nat), (mapG (fun i => .int .i64 i) k l)[j]? = some (b, kk, v) → ∃ hj : j < l.length, b = k + j ∧ kk = .str l[j] ∧ v = .int .i64 ((k + j : Nat) : Int) := by
    intro l
    induction l with
    | nil => intro k j h; simp [mapG] at h
    | cons s l ih =>
      intro k j h
      cases j with
      | zero =>
        simp only [mapG, List.getElem?_cons_zero, Option.some.injEq, Prod.mk.injEq] at h
        obtain ⟨rfl, rfl, rfl⟩ := h
        exact ⟨by simp, rfl, rfl, rfl⟩
      | succ j =>
        simp only [mapG, List.getElem?_cons_succ] at h
        obtain ⟨h1, h2, h3, h4⟩ := ih (k + 1) j h
        refine ⟨by simp; omega, by omega, by simpa using h3, ?_⟩
        rw [h4, show k + 1 + j = k + (j + 1) by omega]
  obtain ⟨h1, h2, h3, h4⟩ := key l 0 j h
  exact ⟨h1, by omega, h3, by rw [h4, Nat.zero_add]⟩
theorem ixMap_at {l : List Str} {j : Nat} (hj : j < l.length) : (ixMap l)[j]? = some (j, .str l[j], .int .i64 (j : Nat)) := by
  have hl := mapG_len (fun i => .int .i64 i) l 0
  obtain ⟨⟨b, kk, v⟩, h⟩ : ∃ p, (ixMap l)[j]? = some p := ⟨_, List.getElem?_eq_getElem (by unfold ixMap; omega)⟩
  obtain ⟨_, h1, h2, h3⟩ := ixMap_get h
  rw [h, h1, h2, h3]
theorem ixMap_look (t : Str) (l : List Str) : mapAt (.str t) (ixMap l) = some ((ixS t l).map fun i => (i, i, .int .i64 (i : Nat))) := by
  unfold ixMap; rw [mapG_at]; simp
end Go.Sx.Sp
namespace Go.Sx.Sp
open Go Go.Sx Go.Proofs
attribute [local irreducible] GoodW
theorem nodup_get {cs : List Cell} (h : (textsOf cs).Nodup) {i j : Nat} (hi : i < cs.length) (hj : j < cs.length) (e : (cellI cs i).text = (cellI cs j).text) : i = j := by
  have e1 : cellI cs i = cs[i] := by simp [cellI, hi]
  have e2 : cellI cs j = cs[j] := by simp [cellI, hj]
  rw [e1, e2] at e
  have hp := List.pairwise_iff_getElem.1 h
  rcases Nat.lt_trichotomy i j with h1 | h1 | h1
  · exact absurd (by simpa [textsOf] using e) (hp i j (by simp [textsOf]; omega) (by simp [textsOf]; omega) h1)
  · exact h1
  · exact absurd (by simpa [textsOf] using e.symm) (hp j i (by simp [textsOf]; omega) (by simp [textsOf]; omega) h1)
structure Seen (n : Nat) (seen : List Nat) : Prop where
  nd : seen.Nodup
  lt : ∀ i ∈ seen, i < n
theorem Seen.nil (n : Nat) : Seen n [] := ⟨List.nodup_nil, fun i h => by cases h⟩
theorem Seen.snoc {n : Nat} {seen : List Nat} (h : Seen n seen) {j : Nat} (hj : j < n) (hn : j ∉ seen) : Seen n (seen ++ [j]) := by
  refine ⟨List.nodup_append.2 ⟨h.nd, by simp, fun a ha b hb => ?_⟩, fun i hi => ?_⟩
  · simp at hb; subst hb; exact fun e => hn (e ▸ ha)
  · rcases List.mem_append.1 hi with h1 | h1
    · exact h.lt i h1
    · simp at h1; omega
theorem Seen.len {n : Nat} {seen : List Nat} (h : Seen n seen) : seen.length ≤ n := by
  have h1 : seen ⊆ List.range n := fun i hi => List.mem_range.2 (h.lt i hi)
  have := h.nd.length_le_of_subset h1
  simpa using this
theorem filter_dist {α : Type} {key : α → Str} {f : Nat → α} {n : Nat} {l : List Nat} (h : Seen n l) (hf : ∀ i j, i < n → j < n → key (f i) = key (f j) → i = j) (p : Nat → Bool) : DistK key ((l.filter p).map f) := by
  unfold DistK
  rw [List.pairwise_map]
  have h1 : (l.filter p).Nodup := h.nd.sublist List.filter_sublist
  rw [List.nodup_iff_pairwise_ne] at h1
  rw [List.pairwise_iff_getElem] at h1 ⊢
  intro i j hi hj hij e
  have m1 := (List.mem_filter.1 (List.getElem_mem hi)).1
  have m2 := (List.mem_filter.1 (List.getElem_mem hj)).1
  exact h1 i j hi hj hij (hf _ _ (h.lt _ m1) (h.lt _ m2) e)
theorem sort_seen {α : Type} {key : α → Str} {f : Nat → α} {n : Nat} {l : List Nat} (h : Seen n l) (hall : ∀ i, i < n → i ∈ l) (hf : ∀ i j, i < n → j < n → key (f i) = key (f j) → i = j) (p : Nat → Bool) :
    sortK key ((l.filter p).map f) = sortK key (((List.range n).filter p).map f) := by
  have hr : Seen n (List.range n) := ⟨List.nodup_range, fun i hi => List.mem_range.1 hi⟩
  refine sortK_one (filter_dist h hf p) (filter_dist hr hf p) fun x => ?_
  simp only [List.mem_map, List.mem_filter]
  constructor
  · rintro ⟨i, ⟨h1, h2⟩, rfl⟩; exact ⟨i, ⟨List.mem_range.2 (h.lt i h1), h2⟩, rfl⟩
  · rintro ⟨i, ⟨h1, h2⟩, rfl⟩; exact ⟨i, ⟨hall i (List.mem_range.1 h1), h2⟩, rfl⟩
theorem dropOf_snoc (a b : Table) (k : Nat) (seen : List Nat) (j : Nat) : dropOf a b k (seen ++ [j]) = if diffB a b k (cellI (colK a k) j).text j = true then dropOf a b k seen ++ [cellI (colK a k) j] else dropOf a b k seen := by
  unfold dropOf
  rw [List.filter_append]
  by_cases h : diffB a b k (cellI (colK a k) j).text j = true <;> simp [h]
theorem addOf_snoc (a b : Table) (k : Nat) (seen : List Nat) (j : Nat) : addOf a b k (seen ++ [j]) = if diffB b a k (cellI (colK b k) j).text j = true then addOf a b k seen ++ [rowM b j] else addOf a b k seen := by
  unfold addOf
  rw [List.filter_append]
  by_cases h : diffB b a k (cellI (colK b k) j).text j = true <;> simp [h]
theorem filt_len {α : Type} (f : Nat → α) (p : Nat → Bool) (l : List Nat) : ((l.filter p).map f).length ≤ l.length := by simp; exact List.length_filter_le _ _
theorem keyAt_row {t : Table} {k i : Nat} (hk : k < t.cols.length) : keyAt k (rowM t i) = (cellI (colK t k) i).text := by
  simp [keyAt, rowM, colK, cellI, cellAt, hk]
theorem lineRows_snoc (a : List (List Cell)) (c : List Cell) : lineRows (a ++ [c]) = lineRows a ++ [lineV c] := by simp [lineRows]
set_option maxHeartbeats 16000000 in
theorem of_spec (a b : Table) (key : Int) (hn : rowsN a ≤ 12) (hm : rowsN b ≤ 12) : Spec Tryd.prog 15 [.agg a.row, .agg b.row, .int .i64 key] [] (.tup [.agg (ofM a b key).1.row, .int .i64 (ofM a b key).2]) [] := by
  have sp1 := equalNames_spec a.cols b.cols
  have sp2 := valid_spec a
  have sp3 := valid_spec b
  have sp4 := check_spec key [a, b]
  refine Spec.body env Tryd.func15 rfl (by kernel_rfl) (Nat.le_of_ble_eq_true (by kernel_rfl)) (keysSub rfl) fun Γ hN hK => ?_; have hML : maxLen = 9223372036854775807 := by unfold maxLen; rfl
  by_cases hcond : validB a = true ∧ validB b = true ∧ namesOf a.cols = namesOf b.cols
  · obtain ⟨ha, hb0, hnm⟩ := hcond
    rw [decide_eq_true hnm] at sp1
    rw [ha] at sp2
    rw [hb0] at sp3
    by_cases hck : checkM key [a, b] = 0
    · have hof : ofM a b key = (diffM a b key.toNat, 0) := by simp [ofM, ha, hb0, hnm, hck]
      rw [hof]
      rw [hck] at sp4
      have hin : inB key a = true ∧ inB key b = true ∧ keyB (colK a key.toNat) = true ∧ keyB (colK b key.toNat) = true := by
        unfold checkM at hck
        split at hck
        · rename_i h1
          split at hck
          · rename_i h2
            simp only [List.all_cons, List.all_nil, Bool.and_true, Bool.and_eq_true] at h1 h2
            exact ⟨h1.1, h1.2, h2.1, h2.2⟩
          · simp at hck
        · simp at hck
      obtain ⟨i1, i2, i3, i4⟩ := hin
      unfold inB at i1 i2
      have i1 := of_decide_eq_true i1
      have i2 := of_decide_eq_true i2
      obtain ⟨k, rfl⟩ : ∃ k : Nat, key = k := ⟨key.toNat, by omega⟩
      simp only [Int.toNat_natCast] at *
      have hka : k < a.cols.length := by omega
      have hkb : k < b.cols.length := by omega
      have eA : colK a k = a.cols[k].cells := by simp [colK, hka]
      have eB : colK b k = b.cols[k].cells := by simp [colK, hkb]
      have lA : (colK a k).length = rowsN a := by rw [eA]; exact valid_cells ha _ (List.getElem_mem hka)
      have lB : (colK b k).length = rowsN b := by rw [eB]; exact valid_cells hb0 _ (List.getElem_mem hkb)
      have fewA := (validB_few ha).cols
      have fewB := (validB_few hb0).cols
      have f64a : a.cols.length ≤ 4294967295 := by
        simp only [validB, headB, Bool.and_eq_true, decide_eq_true_eq] at ha; omega
      have f64b : b.cols.length ≤ 4294967295 := by
        simp only [validB, headB, Bool.and_eq_true, decide_eq_true_eq] at hb0; omega
      obtain ⟨nA, dA⟩ := (keyB_iff _).1 i3
      obtain ⟨nB, dB⟩ := (keyB_iff _).1 i4
      have sp5 := byKey_spec a k hka (by rw [← eA]; exact dA)
      have sp6 := byKey_spec b k hkb (by rw [← eB]; exact dB)
      rw [← eA] at sp5
      rw [← eB] at sp6
      have rowA : ∀ i, i < rowsN a → Spec Tryd.prog 51 [.agg a.row, .int .i64 (i : Nat)] [] (.sl (cellRows (rowM a i)) false) [] := fun i hi => row_spec a i (fun c hc => by rw [valid_cells ha c hc]; exact hi) f64a
      have rowB : ∀ i, i < rowsN b → Spec Tryd.prog 51 [.agg b.row, .int .i64 (i : Nat)] [] (.sl (cellRows (rowM b i)) false) [] := fun i hi => row_spec b i (fun c hc => by rw [valid_cells hb0 c hc]; exact hi) f64b
      have tA : (textsOf (colK a k)).length = rowsN a := by simp [textsOf, lA]
      have tB : (textsOf (colK b k)).length = rowsN b := by simp [textsOf, lB]
      repeat (first | refine gA ?_ | refine gB ?_ | refine gC rfl ?_ | refine gD rfl ?_ | ((first | refine gE env hN (by kernel_rfl) ?_ | refine gF ?_ | refine gG ?_ | refine gH fun hlen => ?_ | refine gI (by kernel_rfl) ?_ | refine gN rfl ?_ | refine gN (by omega) ?_ | refine gJ rfl ?_ | refine gK (by omega) ?_ | refine gL (by omega) ?_ | refine gK rfl ?_ | refine gO ?_); conv => whnf))
      (refine ⟨_, _, _, callG [] [] [] rfl rfl rfl (by kernel_rfl) (sp1) (by repeat' (first | exact trivial | exact Lent.refl _ | exact Lent.norm _ | apply And.intro)) rfl ⟨rfl, rfl, rfl, rfl, rfl, trivial, rfl, rfl⟩, ?_⟩; conv => whnf)
      repeat (first | refine gA ?_ | refine gB ?_ | refine gC rfl ?_ | refine gD rfl ?_ | ((first | refine gE env hN (by kernel_rfl) ?_ | refine gF ?_ | refine gG ?_ | refine gH fun hlen => ?_ | refine gI (by kernel_rfl) ?_ | refine gN rfl ?_ | refine gN (by omega) ?_ | refine gJ rfl ?_ | refine gK (by omega) ?_ | refine gL (by omega) ?_ | refine gK rfl ?_ | refine gO ?_); conv => whnf))
      (refine ⟨_, _, _, callG [] [] [] rfl rfl rfl (by kernel_rfl) (sp2) (by repeat' (first | exact trivial | exact Lent.refl _ | exact Lent.norm _ | apply And.intro)) rfl ⟨rfl, rfl, rfl, rfl, rfl, trivial, rfl, rfl⟩, ?_⟩; conv => whnf)
      repeat (first | refine gA ?_ | refine gB ?_ | refine gC rfl ?_ | refine gD rfl ?_ | ((first | refine gE env hN (by kernel_rfl) ?_ | refine gF ?_ | refine gG ?_ | refine gH fun hlen => ?_ | refine gI (by kernel_rfl) ?_ | refine gN rfl ?_ | refine gN (by omega) ?_ | refine gJ rfl ?_ | refine gK (by omega) ?_ | refine gL (by omega) ?_ | refine gK rfl ?_ | refine gO ?_); conv => whnf))
      (refine ⟨_, _, _, callG [] [] [] rfl rfl rfl (by kernel_rfl) (sp3) (by repeat' (first | exact trivial | exact Lent.refl _ | exact Lent.norm _ | apply And.intro)) rfl ⟨rfl, rfl, rfl, rfl, rfl, trivial, rfl, rfl⟩, ?_⟩; conv => whnf)
      repeat (first | refine gA ?_ | refine gB ?_ | refine gC rfl ?_ | refine gD rfl ?_ | ((first | refine gE env hN (by kernel_rfl) ?_ | refine gF ?_ | refine gG ?_ | refine gH fun hlen => ?_ | refine gI (by kernel_rfl) ?_ | refine gN rfl ?_ | refine gN (by omega) ?_ | refine gJ rfl ?_ | refine gK (by omega) ?_ | refine gL (by omega) ?_ | refine gK rfl ?_ | refine gO ?_); conv => whnf))
      (refine ⟨_, _, _, callG [] [] [] rfl rfl rfl (by kernel_rfl) (sp4) (by repeat' (first | exact trivial | exact Lent.refl _ | exact Lent.norm _ | apply And.intro)) rfl ⟨rfl, rfl, rfl, rfl, rfl, trivial, rfl, rfl⟩, ?_⟩; conv => whnf)
      repeat (first | refine gA ?_ | refine gB ?_ | refine gC rfl ?_ | refine gD rfl ?_ | ((first | refine gE env hN (by kernel_rfl) ?_ | refine gF ?_ | refine gG ?_ | refine gH fun hlen => ?_ | refine gI (by kernel_rfl) ?_ | refine gN rfl ?_ | refine gN (by omega) ?_ | refine gJ rfl ?_ | refine gK (by omega) ?_ | refine gL (by omega) ?_ | refine gK rfl ?_ | refine gO ?_); conv => whnf))
      (refine ⟨_, _, _, callG [] [(8, 50)] [] rfl rfl rfl (by kernel_rfl) (sp5) (by repeat' (first | exact trivial | exact Lent.refl _ | exact Lent.norm _ | apply And.intro)) rfl ⟨rfl, rfl, rfl, rfl, rfl, by repeat' (first | exact trivial | rfl | apply And.intro), rfl, rfl⟩, ?_⟩; conv => whnf)
      repeat (first | refine gA ?_ | refine gB ?_ | refine gC rfl ?_ | refine gD rfl ?_ | ((first | refine gE env hN (by kernel_rfl) ?_ | refine gF ?_ | refine gG ?_ | refine gH fun hlen => ?_ | refine gI (by kernel_rfl) ?_ | refine gN rfl ?_ | refine gN (by omega) ?_ | refine gJ rfl ?_ | refine gK (by omega) ?_ | refine gL (by omega) ?_ | refine gK rfl ?_ | refine gO ?_); conv => whnf))
      (refine ⟨_, _, _, callG [] [(8, 53)] [] rfl rfl rfl (by kernel_rfl) (sp6) (by repeat' (first | exact trivial | exact Lent.refl _ | exact Lent.norm _ | apply And.intro)) rfl ⟨rfl, rfl, rfl, rfl, rfl, by repeat' (first | exact trivial | rfl | apply And.intro), rfl, rfl⟩, ?_⟩; conv => whnf)
      repeat (first | refine gA ?_ | refine gB ?_ | refine gC rfl ?_ | refine gD rfl ?_ | ((first | refine gE env hN (by kernel_rfl) ?_ | refine gF ?_ | refine gG ?_ | refine gH fun hlen => ?_ | refine gI (by kernel_rfl) ?_ | refine gN rfl ?_ | refine gN (by omega) ?_ | refine gJ rfl ?_ | refine gK (by omega) ?_ | refine gL (by omega) ?_ | refine gK rfl ?_ | refine gO ?_); conv => whnf))
      refine W.ownCell 12 0 0 91 2 rfl rfl rfl rfl rfl ?_
      refine W.ownCell 12 0 1 92 1 rfl rfl rfl rfl rfl ?_
      refine W.loopG (fun n st => ∃ seen : List Nat, Seen (rowsN a) seen ∧ n = rowsN a - seen.length ∧ st = ⟨[(2, .int .i64 k), (3, .bp 3 0), (4, .bp 4 0), (6, .bp 6 0), (10, .omap 50 0), (11, .omap 53 0), (12, .bp 12 0), (55, .bp 55 0)], (55, [.iter 50 0 (textsOf (colK a k)).length seen]) :: [(3, [.rows 3 [a.row] none]), (4, [.rows 3 [b.row] none]), (6, [.rows 2 [[.nils, .nils]] none]), (50, [.map (ixMap (textsOf (colK a k))) (textsOf (colK a k)).length (some [])]), (53, [.map (ixMap (textsOf (colK b k))) (textsOf (colK b k)).length (some [])]), (12, [.rows 2 [[.osl 91 0 0 (cellRows (dropOf a b k seen)).length (cellRows (dropOf a b k seen)).length, .osl 92 0 0 (lineRows (([] : List (List Cell)))).length (lineRows (([] : List (List Cell)))).length]] none]), (91, [.rows 2 (cellRows (dropOf a b k seen)) (some [])]), (92, [.rows 1 (lineRows (([] : List (List Cell)))) (some [])])], [3, 4, 6, 50, 53, 12, 55, 91, 92]⟩)
        (rowsN a) _ ⟨[], Seen.nil _, by simp, rfl⟩ ⟨[(55, 55), (3, 3), (4, 4), (6, 6), (50, 50), (53, 53), (12, 12), (91, 91), (92, 92)], [], [], LeG.mk' rfl rfl rfl (by repeat' (first | exact trivial | exact ⟨_, .refl _, rfl⟩ | apply And.intro)) (.cons 55 rfl rfl (.refl _) rfl (.cons 3 rfl rfl (.refl _) rfl (.cons 4 rfl rfl (.refl _) rfl (.cons 6 rfl rfl (.refl _) rfl (.cons 50 rfl rfl (.refl _) rfl (.cons 53 rfl rfl (.refl _) rfl (.cons 12 rfl rfl (.refl _) rfl (.cons 91 rfl rfl (.refl _) rfl (.cons 92 rfl rfl (.refl _) rfl .nil))))))))) rfl rfl (by rw [hK]; rfl)⟩ ?_
      rintro n st ⟨seen, hs, rfl, rfl⟩
      refine gA ?_
      refine W.nextMap env hN rfl rfl rfl (by kernel_rfl) rfl rfl rfl (fun hD => ?_) (fun j0 j kk v hj hb => ?_)
      · have hall : ∀ i, i < rowsN a → i ∈ seen := fun i hi => hD i i _ _ (ixMap_at (by omega))
        conv => whnf
        repeat (first | refine gA ?_ | refine gB ?_ | refine gC rfl ?_ | refine gD rfl ?_ | ((first | refine gE env hN (by kernel_rfl) ?_ | refine gF ?_ | refine gG ?_ | refine gH fun hlen => ?_ | refine gI (by kernel_rfl) ?_ | refine gN rfl ?_ | refine gN (by omega) ?_ | refine gJ rfl ?_ | refine gK (by omega) ?_ | refine gL (by omega) ?_ | refine gK rfl ?_ | refine gO ?_); conv => whnf))
        generalize hdr : dropOf a b k seen = dr
        refine W.loopG (fun n st => ∃ seen2 : List Nat, Seen (rowsN b) seen2 ∧ n = rowsN b - seen2.length ∧ st = ⟨[(2, .int .i64 k), (3, .bp 3 0), (4, .bp 4 0), (6, .bp 6 0), (10, .omap 50 0), (11, .omap 53 0), (12, .bp 12 0), (87, .bp 87 0)], (87, [.iter 53 0 (textsOf (colK b k)).length seen2]) :: [(3, [.rows 3 [a.row] none]), (4, [.rows 3 [b.row] none]), (6, [.rows 2 [[.nils, .nils]] none]), (50, [.map (ixMap (textsOf (colK a k))) (textsOf (colK a k)).length (some [])]), (53, [.map (ixMap (textsOf (colK b k))) (textsOf (colK b k)).length (some [])]), (12, [.rows 2 [[.osl 91 0 0 (cellRows (dr)).length (cellRows (dr)).length, .osl 92 0 0 (lineRows (addOf a b k seen2)).length (lineRows (addOf a b k seen2)).length]] none]), (91, [.rows 2 (cellRows (dr)) (some [])]), (92, [.rows 1 (lineRows (addOf a b k seen2)) (some [])])], [3, 4, 6, 50, 53, 12, 87, 91, 92]⟩)
          (rowsN b) _ ⟨[], Seen.nil _, by simp, rfl⟩ ⟨[(87, 87), (3, 3), (4, 4), (6, 6), (50, 50), (53, 53), (12, 12), (91, 91), (92, 92)], [], [], LeG.mk' rfl rfl rfl (by repeat' (first | exact trivial | exact ⟨_, .refl _, rfl⟩ | apply And.intro)) (.cons 87 rfl rfl (.refl _) rfl (.cons 3 rfl rfl (.refl _) rfl (.cons 4 rfl rfl (.refl _) rfl (.cons 6 rfl rfl (.refl _) rfl (.cons 50 rfl rfl (.refl _) rfl (.cons 53 rfl rfl (.refl _) rfl (.cons 12 rfl rfl (.refl _) rfl (.cons 91 rfl rfl (.refl _) rfl (.cons 92 rfl rfl (.refl _) rfl .nil))))))))) rfl rfl (by rw [hK]; rfl)⟩ ?_
        rintro n st ⟨seen2, hs2, rfl, rfl⟩
        refine gA ?_
        refine W.nextMap env hN rfl rfl rfl (by kernel_rfl) rfl rfl rfl (fun hD => ?_) (fun j0 j kk v hj hb => ?_)
        · have hall2 : ∀ i, i < rowsN b → i ∈ seen2 := fun i hi => hD i i _ _ (ixMap_at (by omega))
          have hdl : dr.length ≤ 12 := by
            have h1 : dr.length ≤ seen.length := by rw [← hdr]; exact filt_len _ _ _
            have := hs.len; omega
          have hal : (addOf a b k seen2).length ≤ 12 := by
            have h1 : (addOf a b k seen2).length ≤ seen2.length := filt_len _ _ _
            have := hs2.len; omega
          have sp10 := sorted_spec dr (addOf a b k seen2) k hdl hal (fun r hr => by
            unfold addOf at hr
            obtain ⟨i, _, rfl⟩ := List.mem_map.1 hr
            rw [rowM_len]; exact hkb)
          conv => whnf
          repeat (first | refine gA ?_ | refine gB ?_ | refine gC rfl ?_ | refine gD rfl ?_ | ((first | refine gE env hN (by kernel_rfl) ?_ | refine gF ?_ | refine gG ?_ | refine gH fun hlen => ?_ | refine gI (by kernel_rfl) ?_ | refine gN rfl ?_ | refine gN (by omega) ?_ | refine gJ rfl ?_ | refine gK (by omega) ?_ | refine gL (by omega) ?_ | refine gK rfl ?_ | refine gO ?_); conv => whnf))
          (refine ⟨_, _, _, callG [(0, 91), (1, 92)] [] [] rfl rfl rfl (by kernel_rfl) (sp10) (by repeat' (first | exact trivial | exact Lent.refl _ | exact Lent.norm _ | apply And.intro)) rfl ⟨rfl, rfl, rfl, rfl, rfl, by repeat' (first | exact trivial | rfl | apply And.intro), rfl, rfl⟩, ?_⟩; conv => whnf)
          repeat (first | refine gA ?_ | refine gB ?_ | refine gC rfl ?_ | refine gD rfl ?_ | ((first | refine gE env hN (by kernel_rfl) ?_ | refine gF ?_ | refine gG ?_ | refine gH fun hlen => ?_ | refine gI (by kernel_rfl) ?_ | refine gN rfl ?_ | refine gN (by omega) ?_ | refine gJ rfl ?_ | refine gK (by omega) ?_ | refine gL (by omega) ?_ | refine gK rfl ?_ | refine gO ?_); conv => whnf))
          have e1 : sortK Cell.text dr = (diffM a b k).drop := by
            rw [← hdr]; unfold diffM dropOf; rw [lA]
            exact sort_seen hs hall (fun i j hi hj e => nodup_get dA (by omega) (by omega) e) _
          have e2 : sortK (keyAt k) (addOf a b k seen2) = (diffM a b k).add := by
            unfold diffM addOf; rw [lB]
            exact sort_seen hs2 hall2 (fun i j hi hj e => nodup_get dB (by omega) (by omega) (by rw [keyAt_row hkb, keyAt_row hkb] at e; exact e)) _
          have l1 : (cellRows dr).length = (cellRows (diffM a b k).drop).length := by rw [← e1]; simp [cellRows, sortK_len]
          have l2 : (lineRows (addOf a b k seen2)).length = (lineRows (diffM a b k).add).length := by rw [← e2]; simp [lineRows, sortK_len]
          rw [e1, e2]
          refine W.leG (mp := [(6, 6)]) (bo := [91, 92]) (st' := ⟨[(6, .bp 6 0), (7, .int .i64 0)], [(6, [.rows 2 [(diffM a b k).row] none])], [6]⟩)
            (LeG.mk' rfl rfl rfl (by repeat' (first | exact trivial | exact ⟨_, .refl _, rfl⟩ | apply And.intro)) (.cons 6 (b1 := .rows 2 [(diffM a b k).row] none) rfl rfl (.rows _ _ _ ⟨⟨⟨Lent.whole rfl rfl l1 rfl (by first | exact .inl rfl | exact .inr rfl), rfl⟩, ⟨Lent.whole rfl rfl l2 rfl (by first | exact .inl rfl | exact .inr rfl), rfl⟩, trivial⟩, trivial⟩) rfl .nil) rfl rfl (by rw [hK]; rfl)) ?_
          (refine gM ?_; conv => whnf)
          exact retH rfl (.refl _) rfl rfl rfl trivial
        · obtain ⟨hjl, rfl, rfl, rfl⟩ := ixMap_get hj
          have hjb : j < rowsN b := by omega
          have hjc : j < (colK b k).length := by omega
          have hol := lineRows_len (addOf a b k seen2)
          have hfl : (addOf a b k seen2).length ≤ seen2.length := filt_len _ _ _
          have hsl := hs2.len
          have hkj : (textsOf (colK b k))[j] = (cellI (colK b k) j).text := by simp [textsOf, cellI, hjc]
          have sp9 := rowB j hjb
          conv => whnf
          repeat (first | refine gA ?_ | refine gB ?_ | refine gC rfl ?_ | refine gD rfl ?_ | ((first | refine gE env hN (by kernel_rfl) ?_ | refine gF ?_ | refine gG ?_ | refine gH fun hlen => ?_ | refine gI (by kernel_rfl) ?_ | refine gN rfl ?_ | refine gN (by omega) ?_ | refine gJ rfl ?_ | refine gK (by omega) ?_ | refine gL (by omega) ?_ | refine gK rfl ?_ | refine gO ?_); conv => whnf))
          refine ⟨seen2, j, j, .str _, .int .i64 j, rfl, ixMap_at hjl, rfl, ?_⟩
          conv => whnf
          rw [hkj]
          repeat (first | refine gA ?_ | refine gB ?_ | refine gC rfl ?_ | refine gD rfl ?_ | ((first | refine gE env hN (by kernel_rfl) ?_ | refine gF ?_ | refine gG ?_ | refine gH fun hlen => ?_ | refine gI (by kernel_rfl) ?_ | refine gN rfl ?_ | refine gN (by omega) ?_ | refine gJ rfl ?_ | refine gK (by omega) ?_ | refine gL (by omega) ?_ | refine gK rfl ?_ | refine gO ?_); conv => whnf))
          refine zok_intro (by kernel_rfl) ?_
          conv => whnf
          have hlk := ixMap_look (cellI (colK b k) j).text (textsOf (colK a k))
          cases hx : ixS (cellI (colK b k) j).text (textsOf (colK a k)) with
          | none =>
            rw [hx] at hlk
            refine ⟨_, hlk, ?_⟩
            conv => whnf
            repeat (first | refine gA ?_ | refine gB ?_ | refine gC rfl ?_ | refine gD rfl ?_ | ((first | refine gE env hN (by kernel_rfl) ?_ | refine gF ?_ | refine gG ?_ | refine gH fun hlen => ?_ | refine gI (by kernel_rfl) ?_ | refine gN rfl ?_ | refine gN (by omega) ?_ | refine gJ rfl ?_ | refine gK (by omega) ?_ | refine gL (by omega) ?_ | refine gK rfl ?_ | refine gO ?_); conv => whnf))
            have hd : diffB b a k (cellI (colK b k) j).text j = true := by unfold diffB; rw [hx]
            (refine ⟨_, _, _, callG [] [] [] rfl rfl rfl (by kernel_rfl) (sp9) (by repeat' (first | exact trivial | exact Lent.refl _ | exact Lent.norm _ | apply And.intro)) rfl ⟨rfl, rfl, rfl, rfl, rfl, trivial, rfl, rfl⟩, ?_⟩; conv => whnf)
            repeat (first | refine gA ?_ | refine gB ?_ | refine gC rfl ?_ | refine gD rfl ?_ | ((first | refine gE env hN (by kernel_rfl) ?_ | refine gF ?_ | refine gG ?_ | refine gH fun hlen => ?_ | refine gI (by kernel_rfl) ?_ | refine gN rfl ?_ | refine gN (by omega) ?_ | refine gJ rfl ?_ | refine gK (by omega) ?_ | refine gL (by omega) ?_ | refine gK rfl ?_ | refine gO ?_); conv => whnf))
            refine ⟨⟨rowsSz_cons rfl rowsSz_nil, rfl⟩, fitsN (n := (lineRows (addOf a b k seen2)).length + 1) (b := 24) (by omega) (by omega), .inl ⟨rfl, rfl, ?_⟩⟩
            conv => whnf
            repeat (first | refine gA ?_ | refine gB ?_ | refine gC rfl ?_ | refine gD rfl ?_ | ((first | refine gE env hN (by kernel_rfl) ?_ | refine gF ?_ | refine gG ?_ | refine gH fun hlen => ?_ | refine gI (by kernel_rfl) ?_ | refine gN rfl ?_ | refine gN (by omega) ?_ | refine gJ rfl ?_ | refine gK (by omega) ?_ | refine gL (by omega) ?_ | refine gK rfl ?_ | refine gO ?_); conv => whnf))
            refine ⟨_, _, ?_, ⟨seen2 ++ [j], hs2.snoc hjb hb, rfl, rfl⟩, [(87, 87), (3, 3), (4, 4), (6, 6), (50, 50), (53, 53), (12, 12), (91, 91), (92, 92)], [], [], LeG.mk' rfl rfl rfl (by repeat' (first | exact trivial | exact ⟨_, .refl _, rfl⟩ | apply And.intro)) (.cons 87 rfl rfl (.refl _) rfl (.cons 3 rfl rfl (.refl _) rfl (.cons 4 rfl rfl (.refl _) rfl (.cons 6 rfl rfl (.refl _) rfl (.cons 50 rfl rfl (.refl _) rfl (.cons 53 rfl rfl (.refl _) rfl (.cons 12 rfl rfl (.refl _) ?_ (.cons 91 rfl rfl (.refl _) rfl (.cons 92 rfl rfl (.refl _) ?_ .nil))))))))) rfl rfl (by rw [hK]; rfl)⟩
            · have := (hs2.snoc hjb hb).len; simp at this ⊢; omega
            · rw [addOf_snoc, if_pos hd, lineRows_snoc, List.length_append]; rfl
            · rw [addOf_snoc, if_pos hd, lineRows_snoc]; rfl
          | some i =>
            rw [hx] at hlk
            have hia : i < rowsN a := by
              have := (List.getElem?_eq_some_iff.1 (ixS_some hx)).1; omega
            have sp7 := equalCells_spec (rowM a i) (rowM b j)
            have sp8 := rowA i hia
            refine ⟨_, hlk, ?_⟩
            conv => whnf
            repeat (first | refine gA ?_ | refine gB ?_ | refine gC rfl ?_ | refine gD rfl ?_ | ((first | refine gE env hN (by kernel_rfl) ?_ | refine gF ?_ | refine gG ?_ | refine gH fun hlen => ?_ | refine gI (by kernel_rfl) ?_ | refine gN rfl ?_ | refine gN (by omega) ?_ | refine gJ rfl ?_ | refine gK (by omega) ?_ | refine gL (by omega) ?_ | refine gK rfl ?_ | refine gO ?_); conv => whnf))
            (refine ⟨_, _, _, callG [] [] [] rfl rfl rfl (by kernel_rfl) (sp8) (by repeat' (first | exact trivial | exact Lent.refl _ | exact Lent.norm _ | apply And.intro)) rfl ⟨rfl, rfl, rfl, rfl, rfl, trivial, rfl, rfl⟩, ?_⟩; conv => whnf)
            repeat (first | refine gA ?_ | refine gB ?_ | refine gC rfl ?_ | refine gD rfl ?_ | ((first | refine gE env hN (by kernel_rfl) ?_ | refine gF ?_ | refine gG ?_ | refine gH fun hlen => ?_ | refine gI (by kernel_rfl) ?_ | refine gN rfl ?_ | refine gN (by omega) ?_ | refine gJ rfl ?_ | refine gK (by omega) ?_ | refine gL (by omega) ?_ | refine gK rfl ?_ | refine gO ?_); conv => whnf))
            (refine ⟨_, _, _, callG [] [] [] rfl rfl rfl (by kernel_rfl) (sp9) (by repeat' (first | exact trivial | exact Lent.refl _ | exact Lent.norm _ | apply And.intro)) rfl ⟨rfl, rfl, rfl, rfl, rfl, trivial, rfl, rfl⟩, ?_⟩; conv => whnf)
            repeat (first | refine gA ?_ | refine gB ?_ | refine gC rfl ?_ | refine gD rfl ?_ | ((first | refine gE env hN (by kernel_rfl) ?_ | refine gF ?_ | refine gG ?_ | refine gH fun hlen => ?_ | refine gI (by kernel_rfl) ?_ | refine gN rfl ?_ | refine gN (by omega) ?_ | refine gJ rfl ?_ | refine gK (by omega) ?_ | refine gL (by omega) ?_ | refine gK rfl ?_ | refine gO ?_); conv => whnf))
            by_cases he : rowM a i = rowM b j
            · rw [decide_eq_true he] at sp7
              (refine ⟨_, _, _, callG [] [] [] rfl rfl rfl (by kernel_rfl) (sp7) (by repeat' (first | exact trivial | exact Lent.refl _ | exact Lent.norm _ | apply And.intro)) rfl ⟨rfl, rfl, rfl, rfl, rfl, trivial, rfl, rfl⟩, ?_⟩; conv => whnf)
              repeat (first | refine gA ?_ | refine gB ?_ | refine gC rfl ?_ | refine gD rfl ?_ | ((first | refine gE env hN (by kernel_rfl) ?_ | refine gF ?_ | refine gG ?_ | refine gH fun hlen => ?_ | refine gI (by kernel_rfl) ?_ | refine gN rfl ?_ | refine gN (by omega) ?_ | refine gJ rfl ?_ | refine gK (by omega) ?_ | refine gL (by omega) ?_ | refine gK rfl ?_ | refine gO ?_); conv => whnf))
              have hd : ¬ diffB b a k (cellI (colK b k) j).text j = true := by unfold diffB; rw [hx]; simp [he]
              refine ⟨_, _, ?_, ⟨seen2 ++ [j], hs2.snoc hjb hb, rfl, rfl⟩, [(87, 87), (3, 3), (4, 4), (6, 6), (50, 50), (53, 53), (12, 12), (91, 91), (92, 92)], [], [], LeG.mk' rfl rfl rfl (by repeat' (first | exact trivial | exact ⟨_, .refl _, rfl⟩ | apply And.intro)) (.cons 87 rfl rfl (.refl _) rfl (.cons 3 rfl rfl (.refl _) rfl (.cons 4 rfl rfl (.refl _) rfl (.cons 6 rfl rfl (.refl _) rfl (.cons 50 rfl rfl (.refl _) rfl (.cons 53 rfl rfl (.refl _) rfl (.cons 12 rfl rfl (.refl _) ?_ (.cons 91 rfl rfl (.refl _) rfl (.cons 92 rfl rfl (.refl _) ?_ .nil))))))))) rfl rfl (by rw [hK]; rfl)⟩
              · have := (hs2.snoc hjb hb).len; simp at this ⊢; omega
              · rw [addOf_snoc, if_neg hd]; rfl
              · rw [addOf_snoc, if_neg hd]; rfl
            · rw [decide_eq_false he] at sp7
              (refine ⟨_, _, _, callG [] [] [] rfl rfl rfl (by kernel_rfl) (sp7) (by repeat' (first | exact trivial | exact Lent.refl _ | exact Lent.norm _ | apply And.intro)) rfl ⟨rfl, rfl, rfl, rfl, rfl, trivial, rfl, rfl⟩, ?_⟩; conv => whnf)
              repeat (first | refine gA ?_ | refine gB ?_ | refine gC rfl ?_ | refine gD rfl ?_ | ((first | refine gE env hN (by kernel_rfl) ?_ | refine gF ?_ | refine gG ?_ | refine gH fun hlen => ?_ | refine gI (by kernel_rfl) ?_ | refine gN rfl ?_ | refine gN (by omega) ?_ | refine gJ rfl ?_ | refine gK (by omega) ?_ | refine gL (by omega) ?_ | refine gK rfl ?_ | refine gO ?_); conv => whnf))
              have hd : diffB b a k (cellI (colK b k) j).text j = true := by unfold diffB; rw [hx]; simp [Ne.symm he]
              (refine ⟨_, _, _, callG [] [] [] rfl rfl rfl (by kernel_rfl) (sp9) (by repeat' (first | exact trivial | exact Lent.refl _ | exact Lent.norm _ | apply And.intro)) rfl ⟨rfl, rfl, rfl, rfl, rfl, trivial, rfl, rfl⟩, ?_⟩; conv => whnf)
              repeat (first | refine gA ?_ | refine gB ?_ | refine gC rfl ?_ | refine gD rfl ?_ | ((first | refine gE env hN (by kernel_rfl) ?_ | refine gF ?_ | refine gG ?_ | refine gH fun hlen => ?_ | refine gI (by kernel_rfl) ?_ | refine gN rfl ?_ | refine gN (by omega) ?_ | refine gJ rfl ?_ | refine gK (by omega) ?_ | refine gL (by omega) ?_ | refine gK rfl ?_ | refine gO ?_); conv => whnf))
              refine ⟨⟨rowsSz_cons rfl rowsSz_nil, rfl⟩, fitsN (n := (lineRows (addOf a b k seen2)).length + 1) (b := 24) (by omega) (by omega), .inl ⟨rfl, rfl, ?_⟩⟩
              conv => whnf
              repeat (first | refine gA ?_ | refine gB ?_ | refine gC rfl ?_ | refine gD rfl ?_ | ((first | refine gE env hN (by kernel_rfl) ?_ | refine gF ?_ | refine gG ?_ | refine gH fun hlen => ?_ | refine gI (by kernel_rfl) ?_ | refine gN rfl ?_ | refine gN (by omega) ?_ | refine gJ rfl ?_ | refine gK (by omega) ?_ | refine gL (by omega) ?_ | refine gK rfl ?_ | refine gO ?_); conv => whnf))
              refine ⟨_, _, ?_, ⟨seen2 ++ [j], hs2.snoc hjb hb, rfl, rfl⟩, [(87, 87), (3, 3), (4, 4), (6, 6), (50, 50), (53, 53), (12, 12), (91, 91), (92, 92)], [], [], LeG.mk' rfl rfl rfl (by repeat' (first | exact trivial | exact ⟨_, .refl _, rfl⟩ | apply And.intro)) (.cons 87 rfl rfl (.refl _) rfl (.cons 3 rfl rfl (.refl _) rfl (.cons 4 rfl rfl (.refl _) rfl (.cons 6 rfl rfl (.refl _) rfl (.cons 50 rfl rfl (.refl _) rfl (.cons 53 rfl rfl (.refl _) rfl (.cons 12 rfl rfl (.refl _) ?_ (.cons 91 rfl rfl (.refl _) rfl (.cons 92 rfl rfl (.refl _) ?_ .nil))))))))) rfl rfl (by rw [hK]; rfl)⟩
              · have := (hs2.snoc hjb hb).len; simp at this ⊢; omega
              · rw [addOf_snoc, if_pos hd, lineRows_snoc, List.length_append]; rfl
              · rw [addOf_snoc, if_pos hd, lineRows_snoc]; rfl
      · obtain ⟨hjl, rfl, rfl, rfl⟩ := ixMap_get hj
        have hja : j < rowsN a := by omega
        have hjc : j < (colK a k).length := by omega
        have hol := cellRows_len (dropOf a b k seen)
        have hfl : (dropOf a b k seen).length ≤ seen.length := filt_len _ _ _
        have hsl := hs.len
        have hcr : (cellI (colK a k) j).row = [.bool false, .str (cellI (colK a k) j).text] := by
          have := nA (cellI (colK a k) j) (by simp [cellI, hjc])
          unfold Cell.row; rw [this]
        have hkj : (textsOf (colK a k))[j] = (cellI (colK a k) j).text := by simp [textsOf, cellI, hjc]
        conv => whnf
        repeat (first | refine gA ?_ | refine gB ?_ | refine gC rfl ?_ | refine gD rfl ?_ | ((first | refine gE env hN (by kernel_rfl) ?_ | refine gF ?_ | refine gG ?_ | refine gH fun hlen => ?_ | refine gI (by kernel_rfl) ?_ | refine gN rfl ?_ | refine gN (by omega) ?_ | refine gJ rfl ?_ | refine gK (by omega) ?_ | refine gL (by omega) ?_ | refine gK rfl ?_ | refine gO ?_); conv => whnf))
        refine ⟨seen, j, j, .str _, .int .i64 j, rfl, ixMap_at hjl, rfl, ?_⟩
        conv => whnf
        rw [hkj]
        repeat (first | refine gA ?_ | refine gB ?_ | refine gC rfl ?_ | refine gD rfl ?_ | ((first | refine gE env hN (by kernel_rfl) ?_ | refine gF ?_ | refine gG ?_ | refine gH fun hlen => ?_ | refine gI (by kernel_rfl) ?_ | refine gN rfl ?_ | refine gN (by omega) ?_ | refine gJ rfl ?_ | refine gK (by omega) ?_ | refine gL (by omega) ?_ | refine gK rfl ?_ | refine gO ?_); conv => whnf))
        refine zok_intro (by kernel_rfl) ?_
        conv => whnf
        have hlk := ixMap_look (cellI (colK a k) j).text (textsOf (colK b k))
        cases hx : ixS (cellI (colK a k) j).text (textsOf (colK b k)) with
        | none =>
          rw [hx] at hlk
          refine ⟨_, hlk, ?_⟩
          conv => whnf
          repeat (first | refine gA ?_ | refine gB ?_ | refine gC rfl ?_ | refine gD rfl ?_ | ((first | refine gE env hN (by kernel_rfl) ?_ | refine gF ?_ | refine gG ?_ | refine gH fun hlen => ?_ | refine gI (by kernel_rfl) ?_ | refine gN rfl ?_ | refine gN (by omega) ?_ | refine gJ rfl ?_ | refine gK (by omega) ?_ | refine gL (by omega) ?_ | refine gK rfl ?_ | refine gO ?_); conv => whnf))
          have hd : diffB a b k (cellI (colK a k) j).text j = true := by unfold diffB; rw [hx]
          refine ⟨⟨rowsSz_cons rfl rowsSz_nil, rfl⟩, fitsN (n := (cellRows (dropOf a b k seen)).length + 1) (b := 24) (by omega) (by omega), .inl ⟨rfl, rfl, ?_⟩⟩
          conv => whnf
          repeat (first | refine gA ?_ | refine gB ?_ | refine gC rfl ?_ | refine gD rfl ?_ | ((first | refine gE env hN (by kernel_rfl) ?_ | refine gF ?_ | refine gG ?_ | refine gH fun hlen => ?_ | refine gI (by kernel_rfl) ?_ | refine gN rfl ?_ | refine gN (by omega) ?_ | refine gJ rfl ?_ | refine gK (by omega) ?_ | refine gL (by omega) ?_ | refine gK rfl ?_ | refine gO ?_); conv => whnf))
          refine ⟨_, _, ?_, ⟨seen ++ [j], hs.snoc hja hb, rfl, rfl⟩, [(55, 55), (3, 3), (4, 4), (6, 6), (50, 50), (53, 53), (12, 12), (91, 91), (92, 92)], [], [], LeG.mk' rfl rfl rfl (by repeat' (first | exact trivial | exact ⟨_, .refl _, rfl⟩ | apply And.intro)) (.cons 55 rfl rfl (.refl _) rfl (.cons 3 rfl rfl (.refl _) rfl (.cons 4 rfl rfl (.refl _) rfl (.cons 6 rfl rfl (.refl _) rfl (.cons 50 rfl rfl (.refl _) rfl (.cons 53 rfl rfl (.refl _) rfl (.cons 12 rfl rfl (.refl _) ?_ (.cons 91 rfl rfl (.refl _) ?_ (.cons 92 rfl rfl (.refl _) rfl .nil))))))))) rfl rfl (by rw [hK]; rfl)⟩
          · have := (hs.snoc hja hb).len; simp at this ⊢; omega
          · rw [dropOf_snoc, if_pos hd, cellRows_snoc, List.length_append]; rfl
          · rw [dropOf_snoc, if_pos hd, cellRows_snoc, hcr]; rfl
        | some i =>
          rw [hx] at hlk
          have hib : i < rowsN b := by
            have := (List.getElem?_eq_some_iff.1 (ixS_some hx)).1; omega
          have sp7 := equalCells_spec (rowM a j) (rowM b i)
          have sp8 := rowA j hja
          have sp9 := rowB i hib
          refine ⟨_, hlk, ?_⟩
          conv => whnf
          repeat (first | refine gA ?_ | refine gB ?_ | refine gC rfl ?_ | refine gD rfl ?_ | ((first | refine gE env hN (by kernel_rfl) ?_ | refine gF ?_ | refine gG ?_ | refine gH fun hlen => ?_ | refine gI (by kernel_rfl) ?_ | refine gN rfl ?_ | refine gN (by omega) ?_ | refine gJ rfl ?_ | refine gK (by omega) ?_ | refine gL (by omega) ?_ | refine gK rfl ?_ | refine gO ?_); conv => whnf))
          (refine ⟨_, _, _, callG [] [] [] rfl rfl rfl (by kernel_rfl) (sp8) (by repeat' (first | exact trivial | exact Lent.refl _ | exact Lent.norm _ | apply And.intro)) rfl ⟨rfl, rfl, rfl, rfl, rfl, trivial, rfl, rfl⟩, ?_⟩; conv => whnf)
          repeat (first | refine gA ?_ | refine gB ?_ | refine gC rfl ?_ | refine gD rfl ?_ | ((first | refine gE env hN (by kernel_rfl) ?_ | refine gF ?_ | refine gG ?_ | refine gH fun hlen => ?_ | refine gI (by kernel_rfl) ?_ | refine gN rfl ?_ | refine gN (by omega) ?_ | refine gJ rfl ?_ | refine gK (by omega) ?_ | refine gL (by omega) ?_ | refine gK rfl ?_ | refine gO ?_); conv => whnf))
          (refine ⟨_, _, _, callG [] [] [] rfl rfl rfl (by kernel_rfl) (sp9) (by repeat' (first | exact trivial | exact Lent.refl _ | exact Lent.norm _ | apply And.intro)) rfl ⟨rfl, rfl, rfl, rfl, rfl, trivial, rfl, rfl⟩, ?_⟩; conv => whnf)
          repeat (first | refine gA ?_ | refine gB ?_ | refine gC rfl ?_ | refine gD rfl ?_ | ((first | refine gE env hN (by kernel_rfl) ?_ | refine gF ?_ | refine gG ?_ | refine gH fun hlen => ?_ | refine gI (by kernel_rfl) ?_ | refine gN rfl ?_ | refine gN (by omega) ?_ | refine gJ rfl ?_ | refine gK (by omega) ?_ | refine gL (by omega) ?_ | refine gK rfl ?_ | refine gO ?_); conv => whnf))
          by_cases he : rowM a j = rowM b i
          · rw [decide_eq_true he] at sp7
            (refine ⟨_, _, _, callG [] [] [] rfl rfl rfl (by kernel_rfl) (sp7) (by repeat' (first | exact trivial | exact Lent.refl _ | exact Lent.norm _ | apply And.intro)) rfl ⟨rfl, rfl, rfl, rfl, rfl, trivial, rfl, rfl⟩, ?_⟩; conv => whnf)
            repeat (first | refine gA ?_ | refine gB ?_ | refine gC rfl ?_ | refine gD rfl ?_ | ((first | refine gE env hN (by kernel_rfl) ?_ | refine gF ?_ | refine gG ?_ | refine gH fun hlen => ?_ | refine gI (by kernel_rfl) ?_ | refine gN rfl ?_ | refine gN (by omega) ?_ | refine gJ rfl ?_ | refine gK (by omega) ?_ | refine gL (by omega) ?_ | refine gK rfl ?_ | refine gO ?_); conv => whnf))
            have hd : ¬ diffB a b k (cellI (colK a k) j).text j = true := by unfold diffB; rw [hx]; simp [he]
            refine ⟨_, _, ?_, ⟨seen ++ [j], hs.snoc hja hb, rfl, rfl⟩, [(55, 55), (3, 3), (4, 4), (6, 6), (50, 50), (53, 53), (12, 12), (91, 91), (92, 92)], [], [], LeG.mk' rfl rfl rfl (by repeat' (first | exact trivial | exact ⟨_, .refl _, rfl⟩ | apply And.intro)) (.cons 55 rfl rfl (.refl _) rfl (.cons 3 rfl rfl (.refl _) rfl (.cons 4 rfl rfl (.refl _) rfl (.cons 6 rfl rfl (.refl _) rfl (.cons 50 rfl rfl (.refl _) rfl (.cons 53 rfl rfl (.refl _) rfl (.cons 12 rfl rfl (.refl _) ?_ (.cons 91 rfl rfl (.refl _) ?_ (.cons 92 rfl rfl (.refl _) rfl .nil))))))))) rfl rfl (by rw [hK]; rfl)⟩
            · have := (hs.snoc hja hb).len; simp at this ⊢; omega
            · rw [dropOf_snoc, if_neg hd]; rfl
            · rw [dropOf_snoc, if_neg hd]; rfl
          · rw [decide_eq_false he] at sp7
            (refine ⟨_, _, _, callG [] [] [] rfl rfl rfl (by kernel_rfl) (sp7) (by repeat' (first | exact trivial | exact Lent.refl _ | exact Lent.norm _ | apply And.intro)) rfl ⟨rfl, rfl, rfl, rfl, rfl, trivial, rfl, rfl⟩, ?_⟩; conv => whnf)
            repeat (first | refine gA ?_ | refine gB ?_ | refine gC rfl ?_ | refine gD rfl ?_ | ((first | refine gE env hN (by kernel_rfl) ?_ | refine gF ?_ | refine gG ?_ | refine gH fun hlen => ?_ | refine gI (by kernel_rfl) ?_ | refine gN rfl ?_ | refine gN (by omega) ?_ | refine gJ rfl ?_ | refine gK (by omega) ?_ | refine gL (by omega) ?_ | refine gK rfl ?_ | refine gO ?_); conv => whnf))
            have hd : diffB a b k (cellI (colK a k) j).text j = true := by unfold diffB; rw [hx]; simp [he]
            refine ⟨⟨rowsSz_cons rfl rowsSz_nil, rfl⟩, fitsN (n := (cellRows (dropOf a b k seen)).length + 1) (b := 24) (by omega) (by omega), .inl ⟨rfl, rfl, ?_⟩⟩
            conv => whnf
            repeat (first | refine gA ?_ | refine gB ?_ | refine gC rfl ?_ | refine gD rfl ?_ | ((first | refine gE env hN (by kernel_rfl) ?_ | refine gF ?_ | refine gG ?_ | refine gH fun hlen => ?_ | refine gI (by kernel_rfl) ?_ | refine gN rfl ?_ | refine gN (by omega) ?_ | refine gJ rfl ?_ | refine gK (by omega) ?_ | refine gL (by omega) ?_ | refine gK rfl ?_ | refine gO ?_); conv => whnf))
            refine ⟨_, _, ?_, ⟨seen ++ [j], hs.snoc hja hb, rfl, rfl⟩, [(55, 55), (3, 3), (4, 4), (6, 6), (50, 50), (53, 53), (12, 12), (91, 91), (92, 92)], [], [], LeG.mk' rfl rfl rfl (by repeat' (first | exact trivial | exact ⟨_, .refl _, rfl⟩ | apply And.intro)) (.cons 55 rfl rfl (.refl _) rfl (.cons 3 rfl rfl (.refl _) rfl (.cons 4 rfl rfl (.refl _) rfl (.cons 6 rfl rfl (.refl _) rfl (.cons 50 rfl rfl (.refl _) rfl (.cons 53 rfl rfl (.refl _) rfl (.cons 12 rfl rfl (.refl _) ?_ (.cons 91 rfl rfl (.refl _) ?_ (.cons 92 rfl rfl (.refl _) rfl .nil))))))))) rfl rfl (by rw [hK]; rfl)⟩
            · have := (hs.snoc hja hb).len; simp at this ⊢; omega
            · rw [dropOf_snoc, if_pos hd, cellRows_snoc, List.length_append]; rfl
            · rw [dropOf_snoc, if_pos hd, cellRows_snoc, hcr]; rfl
    · have hof : ofM a b key = (Delta.zero, checkM key [a, b]) := by simp [ofM, ha, hb0, hnm, hck]
      rw [hof]
      repeat (first | refine gA ?_ | refine gB ?_ | refine gC rfl ?_ | refine gD rfl ?_ | ((first | refine gE env hN (by kernel_rfl) ?_ | refine gF ?_ | refine gG ?_ | refine gH fun hlen => ?_ | refine gI (by kernel_rfl) ?_ | refine gN rfl ?_ | refine gN (by omega) ?_ | refine gJ rfl ?_ | refine gK (by omega) ?_ | refine gL (by omega) ?_ | refine gK rfl ?_ | refine gO ?_); conv => whnf))
      (refine ⟨_, _, _, callG [] [] [] rfl rfl rfl (by kernel_rfl) (sp1) (by repeat' (first | exact trivial | exact Lent.refl _ | exact Lent.norm _ | apply And.intro)) rfl ⟨rfl, rfl, rfl, rfl, rfl, trivial, rfl, rfl⟩, ?_⟩; conv => whnf)
      repeat (first | refine gA ?_ | refine gB ?_ | refine gC rfl ?_ | refine gD rfl ?_ | ((first | refine gE env hN (by kernel_rfl) ?_ | refine gF ?_ | refine gG ?_ | refine gH fun hlen => ?_ | refine gI (by kernel_rfl) ?_ | refine gN rfl ?_ | refine gN (by omega) ?_ | refine gJ rfl ?_ | refine gK (by omega) ?_ | refine gL (by omega) ?_ | refine gK rfl ?_ | refine gO ?_); conv => whnf))
      (refine ⟨_, _, _, callG [] [] [] rfl rfl rfl (by kernel_rfl) (sp2) (by repeat' (first | exact trivial | exact Lent.refl _ | exact Lent.norm _ | apply And.intro)) rfl ⟨rfl, rfl, rfl, rfl, rfl, trivial, rfl, rfl⟩, ?_⟩; conv => whnf)
      repeat (first | refine gA ?_ | refine gB ?_ | refine gC rfl ?_ | refine gD rfl ?_ | ((first | refine gE env hN (by kernel_rfl) ?_ | refine gF ?_ | refine gG ?_ | refine gH fun hlen => ?_ | refine gI (by kernel_rfl) ?_ | refine gN rfl ?_ | refine gN (by omega) ?_ | refine gJ rfl ?_ | refine gK (by omega) ?_ | refine gL (by omega) ?_ | refine gK rfl ?_ | refine gO ?_); conv => whnf))
      (refine ⟨_, _, _, callG [] [] [] rfl rfl rfl (by kernel_rfl) (sp3) (by repeat' (first | exact trivial | exact Lent.refl _ | exact Lent.norm _ | apply And.intro)) rfl ⟨rfl, rfl, rfl, rfl, rfl, trivial, rfl, rfl⟩, ?_⟩; conv => whnf)
      repeat (first | refine gA ?_ | refine gB ?_ | refine gC rfl ?_ | refine gD rfl ?_ | ((first | refine gE env hN (by kernel_rfl) ?_ | refine gF ?_ | refine gG ?_ | refine gH fun hlen => ?_ | refine gI (by kernel_rfl) ?_ | refine gN rfl ?_ | refine gN (by omega) ?_ | refine gJ rfl ?_ | refine gK (by omega) ?_ | refine gL (by omega) ?_ | refine gK rfl ?_ | refine gO ?_); conv => whnf))
      (refine ⟨_, _, _, callG [] [] [] rfl rfl rfl (by kernel_rfl) (sp4) (by repeat' (first | exact trivial | exact Lent.refl _ | exact Lent.norm _ | apply And.intro)) rfl ⟨rfl, rfl, rfl, rfl, rfl, trivial, rfl, rfl⟩, ?_⟩; conv => whnf)
      repeat (first | refine gA ?_ | refine gB ?_ | refine gC rfl ?_ | refine gD rfl ?_ | ((first | refine gE env hN (by kernel_rfl) ?_ | refine gF ?_ | refine gG ?_ | refine gH fun hlen => ?_ | refine gI (by kernel_rfl) ?_ | refine gN rfl ?_ | refine gN (by omega) ?_ | refine gJ rfl ?_ | refine gK (by omega) ?_ | refine gL (by omega) ?_ | refine gK rfl ?_ | refine gO ?_); conv => whnf))
      (refine gM ?_; conv => whnf)
      exact retH rfl (.norm _) rfl rfl rfl trivial
  · have hof : ofM a b key = (Delta.zero, 1) := by simp only [ofM]; rw [if_neg hcond]
    rw [hof]
    repeat (first | refine gA ?_ | refine gB ?_ | refine gC rfl ?_ | refine gD rfl ?_ | ((first | refine gE env hN (by kernel_rfl) ?_ | refine gF ?_ | refine gG ?_ | refine gH fun hlen => ?_ | refine gI (by kernel_rfl) ?_ | refine gN rfl ?_ | refine gN (by omega) ?_ | refine gJ rfl ?_ | refine gK (by omega) ?_ | refine gL (by omega) ?_ | refine gK rfl ?_ | refine gO ?_); conv => whnf))
    (refine ⟨_, _, _, callG [] [] [] rfl rfl rfl (by kernel_rfl) (sp1) (by repeat' (first | exact trivial | exact Lent.refl _ | exact Lent.norm _ | apply And.intro)) rfl ⟨rfl, rfl, rfl, rfl, rfl, trivial, rfl, rfl⟩, ?_⟩; conv => whnf)
    repeat (first | refine gA ?_ | refine gB ?_ | refine gC rfl ?_ | refine gD rfl ?_ | ((first | refine gE env hN (by kernel_rfl) ?_ | refine gF ?_ | refine gG ?_ | refine gH fun hlen => ?_ | refine gI (by kernel_rfl) ?_ | refine gN rfl ?_ | refine gN (by omega) ?_ | refine gJ rfl ?_ | refine gK (by omega) ?_ | refine gL (by omega) ?_ | refine gK rfl ?_ | refine gO ?_); conv => whnf))
    cases ha : validB a with
    | false =>
      rw [ha] at sp2
      (refine ⟨_, _, _, callG [] [] [] rfl rfl rfl (by kernel_rfl) (sp2) (by repeat' (first | exact trivial | exact Lent.refl _ | exact Lent.norm _ | apply And.intro)) rfl ⟨rfl, rfl, rfl, rfl, rfl, trivial, rfl, rfl⟩, ?_⟩; conv => whnf)
      repeat (first | refine gA ?_ | refine gB ?_ | refine gC rfl ?_ | refine gD rfl ?_ | ((first | refine gE env hN (by kernel_rfl) ?_ | refine gF ?_ | refine gG ?_ | refine gH fun hlen => ?_ | refine gI (by kernel_rfl) ?_ | refine gN rfl ?_ | refine gN (by omega) ?_ | refine gJ rfl ?_ | refine gK (by omega) ?_ | refine gL (by omega) ?_ | refine gK rfl ?_ | refine gO ?_); conv => whnf))
      (refine gM ?_; conv => whnf)
      exact retH rfl (.norm _) rfl rfl rfl trivial
    | true =>
      rw [ha] at sp2
      (refine ⟨_, _, _, callG [] [] [] rfl rfl rfl (by kernel_rfl) (sp2) (by repeat' (first | exact trivial | exact Lent.refl _ | exact Lent.norm _ | apply And.intro)) rfl ⟨rfl, rfl, rfl, rfl, rfl, trivial, rfl, rfl⟩, ?_⟩; conv => whnf)
      repeat (first | refine gA ?_ | refine gB ?_ | refine gC rfl ?_ | refine gD rfl ?_ | ((first | refine gE env hN (by kernel_rfl) ?_ | refine gF ?_ | refine gG ?_ | refine gH fun hlen => ?_ | refine gI (by kernel_rfl) ?_ | refine gN rfl ?_ | refine gN (by omega) ?_ | refine gJ rfl ?_ | refine gK (by omega) ?_ | refine gL (by omega) ?_ | refine gK rfl ?_ | refine gO ?_); conv => whnf))
      cases hb0 : validB b with
      | false =>
        rw [hb0] at sp3
        (refine ⟨_, _, _, callG [] [] [] rfl rfl rfl (by kernel_rfl) (sp3) (by repeat' (first | exact trivial | exact Lent.refl _ | exact Lent.norm _ | apply And.intro)) rfl ⟨rfl, rfl, rfl, rfl, rfl, trivial, rfl, rfl⟩, ?_⟩; conv => whnf)
        repeat (first | refine gA ?_ | refine gB ?_ | refine gC rfl ?_ | refine gD rfl ?_ | ((first | refine gE env hN (by kernel_rfl) ?_ | refine gF ?_ | refine gG ?_ | refine gH fun hlen => ?_ | refine gI (by kernel_rfl) ?_ | refine gN rfl ?_ | refine gN (by omega) ?_ | refine gJ rfl ?_ | refine gK (by omega) ?_ | refine gL (by omega) ?_ | refine gK rfl ?_ | refine gO ?_); conv => whnf))
        (refine gM ?_; conv => whnf)
        exact retH rfl (.norm _) rfl rfl rfl trivial
      | true =>
        rw [hb0] at sp3
        (refine ⟨_, _, _, callG [] [] [] rfl rfl rfl (by kernel_rfl) (sp3) (by repeat' (first | exact trivial | exact Lent.refl _ | exact Lent.norm _ | apply And.intro)) rfl ⟨rfl, rfl, rfl, rfl, rfl, trivial, rfl, rfl⟩, ?_⟩; conv => whnf)
        have hnm : decide (namesOf a.cols = namesOf b.cols) = false := by
          rw [decide_eq_false]; exact fun h => hcond ⟨ha, hb0, h⟩
        rw [hnm]
        repeat (first | refine gA ?_ | refine gB ?_ | refine gC rfl ?_ | refine gD rfl ?_ | ((first | refine gE env hN (by kernel_rfl) ?_ | refine gF ?_ | refine gG ?_ | refine gH fun hlen => ?_ | refine gI (by kernel_rfl) ?_ | refine gN rfl ?_ | refine gN (by omega) ?_ | refine gJ rfl ?_ | refine gK (by omega) ?_ | refine gL (by omega) ?_ | refine gK rfl ?_ | refine gO ?_); conv => whnf))
        (refine gM ?_; conv => whnf)
        exact retH rfl (.norm _) rfl rfl rfl trivial
end Go.Sx.Sp
namespace Go.Sx.Sp
open Go Go.Sx Go.Proofs
attribute [local irreducible] GoodW
def badB (c : Cell) : Bool := !cellB c
def goodD (n : Int) (d : Delta) : Bool := d.add.all (fun r => decide ((r.length : Int) = n) && !r.any badB) && !d.drop.any badB
set_option maxHeartbeats 1000000 in
theorem badB_spec (c : Cell) : Spec Tryd.prog 114 [.agg c.row] [] (.bool (badB c)) [] := by
  have sp := validCell_spec c
  refine Spec.body env Tryd.func114 rfl (by kernel_rfl) (Nat.le_of_ble_eq_true (by kernel_rfl)) (keysSub rfl) fun Γ hN hK => ?_; have hML : maxLen = 9223372036854775807 := by unfold maxLen; rfl
  repeat (first | refine gA ?_ | refine gB ?_ | refine gC rfl ?_ | refine gD rfl ?_ | ((first | refine gE env hN (by kernel_rfl) ?_ | refine gF ?_ | refine gG ?_ | refine gH fun hlen => ?_ | refine gI (by kernel_rfl) ?_ | refine gN rfl ?_ | refine gN (by omega) ?_ | refine gJ rfl ?_ | refine gK (by omega) ?_ | refine gL (by omega) ?_ | refine gK rfl ?_ | refine gO ?_); conv => whnf))
  (refine ⟨_, _, _, callG [] [] [] rfl rfl rfl (by kernel_rfl) (sp) (by repeat' (first | exact trivial | exact Lent.refl _ | exact Lent.norm _ | apply And.intro)) rfl ⟨rfl, rfl, rfl, rfl, rfl, trivial, rfl, rfl⟩, ?_⟩; conv => whnf)
  repeat (first | refine gA ?_ | refine gB ?_ | refine gC rfl ?_ | refine gD rfl ?_ | ((first | refine gE env hN (by kernel_rfl) ?_ | refine gF ?_ | refine gG ?_ | refine gH fun hlen => ?_ | refine gI (by kernel_rfl) ?_ | refine gN rfl ?_ | refine gN (by omega) ?_ | refine gJ rfl ?_ | refine gK (by omega) ?_ | refine gL (by omega) ?_ | refine gK rfl ?_ | refine gO ?_ | refine gM ?_); conv => whnf))
  exact ret0 rfl rfl rfl
set_option maxHeartbeats 2000000 in
theorem indexBad_spec  (l : List Cell) : Spec Tryd.prog 145 [.sl (cellRows l) false, .fn 114 []] [] (.int .i64 (ixFrom (badB) l 0)) [] := by
  have hrl : (cellRows l).length = l.length := by simp [cellRows]
  refine Spec.body env Tryd.func145 rfl (by kernel_rfl) (Nat.le_of_ble_eq_true (by kernel_rfl)) (keysSub rfl) fun Γ hN hK => ?_; have hML : maxLen = 9223372036854775807 := by unfold maxLen; rfl
  repeat (first | refine gA ?_ | refine gB ?_ | refine gC rfl ?_ | refine gD rfl ?_ | ((first | refine gE env hN (by kernel_rfl) ?_ | refine gF ?_ | refine gG ?_ | refine gH fun hlen => ?_ | refine gI (by kernel_rfl) ?_ | refine gN rfl ?_ | refine gN (by omega) ?_ | refine gJ rfl ?_ | refine gK (by omega) ?_ | refine gL (by omega) ?_ | refine gK rfl ?_ | refine gO ?_); conv => whnf))
  refine W.loopG (fun n st => ∃ k : Nat, k ≤ l.length ∧ ixFrom (badB) l 0 = ixFrom (badB) (l.drop k) k ∧ n = l.length - k ∧ st = ⟨[(0, .sl (cellRows l) false), (1, .fn 114 []), (7, .int .i64 (cellRows l).length), (8, .int .i64 k)], [], []⟩)
    l.length _ ⟨0, by omega, rfl, by omega, rfl⟩ ⟨[], [], [], LeG.mk' rfl rfl rfl (by repeat' (first | exact trivial | exact ⟨_, .refl _, rfl⟩ | apply And.intro)) .nil rfl rfl (by rw [hK]; rfl)⟩ ?_
  rintro n st ⟨k, hk, hix, rfl, rfl⟩
  repeat (first | refine gA ?_ | refine gB ?_ | refine gC rfl ?_ | refine gD rfl ?_ | ((first | refine gE env hN (by kernel_rfl) ?_ | refine gF ?_ | refine gG ?_ | refine gH fun hlen => ?_ | refine gI (by kernel_rfl) ?_ | refine gN rfl ?_ | refine gN (by omega) ?_ | refine gJ rfl ?_ | refine gK (by omega) ?_ | refine gL (by omega) ?_ | refine gK rfl ?_ | refine gO ?_); conv => whnf))
  refine boolRes_split (fun hb => ?_) (fun hb => ?_) <;> conv => whnf
  · have hlt : k < l.length := by omega
    have hx : (cellRows l)[k]? = some (l[k]).row := by simp [cellRows, hlt]
    have sp := badB_spec l[k]
    rw [List.drop_eq_getElem_cons hlt] at hix
    generalize l[k] = x at *
    simp only [ixFrom] at hix
    repeat (first | refine gA ?_ | refine gB ?_ | refine gC rfl ?_ | refine gD rfl ?_ | ((first | refine gE env hN (by kernel_rfl) ?_ | refine gF ?_ | refine gG ?_ | refine gH fun hlen => ?_ | refine gI (by kernel_rfl) ?_ | refine gN rfl ?_ | refine gN (by omega) ?_ | refine gJ rfl ?_ | refine gK (by omega) ?_ | refine gL (by omega) ?_ | refine gK rfl ?_ | refine gO ?_); conv => whnf))
    refine rowAt_of hx ?_
    conv => whnf
    repeat (first | refine gA ?_ | refine gB ?_ | refine gC rfl ?_ | refine gD rfl ?_ | ((first | refine gE env hN (by kernel_rfl) ?_ | refine gF ?_ | refine gG ?_ | refine gH fun hlen => ?_ | refine gI (by kernel_rfl) ?_ | refine gN rfl ?_ | refine gN (by omega) ?_ | refine gJ rfl ?_ | refine gK (by omega) ?_ | refine gL (by omega) ?_ | refine gK rfl ?_ | refine gO ?_); conv => whnf))
    cases hb2 : (badB) x with
    | true =>
      rw [hb2] at sp hix
      (refine ⟨_, _, _, callG [] [] [] rfl rfl rfl (by kernel_rfl) (sp) (by repeat' (first | exact trivial | exact Lent.refl _ | exact Lent.norm _ | apply And.intro)) rfl ⟨rfl, rfl, rfl, rfl, rfl, trivial, rfl, rfl⟩, ?_⟩; conv => whnf)
      repeat (first | refine gA ?_ | refine gB ?_ | refine gC rfl ?_ | refine gD rfl ?_ | ((first | refine gE env hN (by kernel_rfl) ?_ | refine gF ?_ | refine gG ?_ | refine gH fun hlen => ?_ | refine gI (by kernel_rfl) ?_ | refine gN rfl ?_ | refine gN (by omega) ?_ | refine gJ rfl ?_ | refine gK (by omega) ?_ | refine gL (by omega) ?_ | refine gK rfl ?_ | refine gO ?_ | refine gM ?_); conv => whnf))
      exact ret0 rfl (congrArg (V.int .i64) (by rw [hix]; rfl)) rfl
    | false =>
      rw [hb2] at sp hix
      (refine ⟨_, _, _, callG [] [] [] rfl rfl rfl (by kernel_rfl) (sp) (by repeat' (first | exact trivial | exact Lent.refl _ | exact Lent.norm _ | apply And.intro)) rfl ⟨rfl, rfl, rfl, rfl, rfl, trivial, rfl, rfl⟩, ?_⟩; conv => whnf)
      repeat (first | refine gA ?_ | refine gB ?_ | refine gC rfl ?_ | refine gD rfl ?_ | ((first | refine gE env hN (by kernel_rfl) ?_ | refine gF ?_ | refine gG ?_ | refine gH fun hlen => ?_ | refine gI (by kernel_rfl) ?_ | refine gN rfl ?_ | refine gN (by omega) ?_ | refine gJ rfl ?_ | refine gK (by omega) ?_ | refine gL (by omega) ?_ | refine gK rfl ?_ | refine gO ?_); conv => whnf))
      refine ⟨_, _, ?_, ⟨k + 1, by omega, ?_, rfl, rfl⟩, ⟨[], [], [], LeG.mk' rfl rfl rfl (by repeat' (first | exact trivial | exact ⟨_, .refl _, rfl⟩ | apply And.intro)) .nil rfl rfl (by rw [hK]; rfl)⟩⟩
      · omega
      · rw [hix]; rfl
  · have hke : k = l.length := by omega
    rw [hke, List.drop_length] at hix
    repeat (first | refine gA ?_ | refine gB ?_ | refine gC rfl ?_ | refine gD rfl ?_ | ((first | refine gE env hN (by kernel_rfl) ?_ | refine gF ?_ | refine gG ?_ | refine gH fun hlen => ?_ | refine gI (by kernel_rfl) ?_ | refine gN rfl ?_ | refine gN (by omega) ?_ | refine gJ rfl ?_ | refine gK (by omega) ?_ | refine gL (by omega) ?_ | refine gK rfl ?_ | refine gO ?_ | refine gM ?_); conv => whnf))
    exact ret0 rfl (congrArg (V.int .i64) (by rw [hix]; rfl)) rfl
set_option maxHeartbeats 2000000 in
theorem containsBad_spec  (l : List Cell) : Spec Tryd.prog 115 [.sl (cellRows l) false, .fn 114 []] [] (.bool (l.any (badB))) [] := by
  have hn := ixFrom_nonneg (badB) l 0
  refine Spec.body env Tryd.func115 rfl (by kernel_rfl) (Nat.le_of_ble_eq_true (by kernel_rfl)) (keysSub rfl) fun Γ hN hK => ?_; have hML : maxLen = 9223372036854775807 := by unfold maxLen; rfl
  repeat (first | refine gA ?_ | refine gB ?_ | refine gC rfl ?_ | refine gD rfl ?_ | ((first | refine gE env hN (by kernel_rfl) ?_ | refine gF ?_ | refine gG ?_ | refine gH fun hlen => ?_ | refine gI (by kernel_rfl) ?_ | refine gN rfl ?_ | refine gN (by omega) ?_ | refine gJ rfl ?_ | refine gK (by omega) ?_ | refine gL (by omega) ?_ | refine gK rfl ?_ | refine gO ?_); conv => whnf))
  (refine ⟨_, _, _, callG [] [] [] rfl rfl rfl (by kernel_rfl) (indexBad_spec l) (by repeat' (first | exact trivial | exact Lent.refl _ | exact Lent.norm _ | apply And.intro)) rfl ⟨rfl, rfl, rfl, rfl, rfl, trivial, rfl, rfl⟩, ?_⟩; conv => whnf)
  repeat (first | refine gA ?_ | refine gB ?_ | refine gC rfl ?_ | refine gD rfl ?_ | ((first | refine gE env hN (by kernel_rfl) ?_ | refine gF ?_ | refine gG ?_ | refine gH fun hlen => ?_ | refine gI (by kernel_rfl) ?_ | refine gN rfl ?_ | refine gN (by omega) ?_ | refine gJ rfl ?_ | refine gK (by omega) ?_ | refine gL (by omega) ?_ | refine gK rfl ?_ | refine gO ?_); conv => whnf))
  refine boolRes_keep ?_
  conv => whnf
  repeat (first | refine gA ?_ | refine gB ?_ | refine gC rfl ?_ | refine gD rfl ?_ | ((first | refine gE env hN (by kernel_rfl) ?_ | refine gF ?_ | refine gG ?_ | refine gH fun hlen => ?_ | refine gI (by kernel_rfl) ?_ | refine gN rfl ?_ | refine gN (by omega) ?_ | refine gJ rfl ?_ | refine gK (by omega) ?_ | refine gL (by omega) ?_ | refine gK rfl ?_ | refine gO ?_ | refine gM ?_); conv => whnf))
  exact ret0 rfl (congrArg V.bool (by rw [Bool.eq_iff_iff]; simp only [decide_eq_true_eq]; exact hn)) rfl
theorem lineRows_get {l : List (List Cell)} {j : Nat} (h : j < l.length) : (lineRows l)[j]? = some [.sl (cellRows l[j]) false] := by simp [lineRows, lineV, h]
set_option maxHeartbeats 4000000 in
theorem goodD_spec (d : Delta) (n : Int) : Spec Tryd.prog 92 [.agg d.row, .int .i64 n] [] (.bool (goodD n d)) [] := by
  have hl := lineRows_len d.add
  have spD := containsBad_spec d.drop
  refine Spec.body env Tryd.func92 rfl (by kernel_rfl) (Nat.le_of_ble_eq_true (by kernel_rfl)) (keysSub rfl) fun Γ hN hK => ?_; have hML : maxLen = 9223372036854775807 := by unfold maxLen; rfl
  repeat (first | refine gA ?_ | refine gB ?_ | refine gC rfl ?_ | refine gD rfl ?_ | ((first | refine gE env hN (by kernel_rfl) ?_ | refine gF ?_ | refine gG ?_ | refine gH fun hlen => ?_ | refine gI (by kernel_rfl) ?_ | refine gN rfl ?_ | refine gN (by omega) ?_ | refine gJ rfl ?_ | refine gK (by omega) ?_ | refine gL (by omega) ?_ | refine gK rfl ?_ | refine gO ?_); conv => whnf))
  refine W.loopG (fun m st => ∃ j : Nat, j ≤ d.add.length ∧ d.add.all (fun r => decide ((r.length : Int) = n) && !r.any badB) = (d.add.drop j).all (fun r => decide ((r.length : Int) = n) && !r.any badB) ∧ m = d.add.length - j ∧
      st = ⟨[(1, .int .i64 n), (2, .bp 2 0), (5, .fn 114 []), (9, .sl (lineRows d.add) false), (10, .int .i64 (lineRows d.add).length), (11, .int .i64 j)], [(2, [.rows 2 [d.row] none])], [2]⟩)
    d.add.length _ ⟨0, by omega, rfl, by omega, rfl⟩ ⟨[(2, 2)], [], [], LeG.mk' rfl rfl rfl (by repeat' (first | exact trivial | exact ⟨_, .refl _, rfl⟩ | apply And.intro)) (.cons 2 rfl rfl (.refl _) rfl .nil) rfl rfl (by rw [hK]; rfl)⟩ ?_
  rintro m st ⟨j, hj, hall, rfl, rfl⟩
  repeat (first | refine gA ?_ | refine gB ?_ | refine gC rfl ?_ | refine gD rfl ?_ | ((first | refine gE env hN (by kernel_rfl) ?_ | refine gF ?_ | refine gG ?_ | refine gH fun hlen => ?_ | refine gI (by kernel_rfl) ?_ | refine gN rfl ?_ | refine gN (by omega) ?_ | refine gJ rfl ?_ | refine gK (by omega) ?_ | refine gL (by omega) ?_ | refine gK rfl ?_ | refine gO ?_); conv => whnf))
  refine boolRes_split (fun hb => ?_) (fun hb => ?_) <;> conv => whnf
  · have hlt : j < d.add.length := by omega
    have hg := lineRows_get hlt
    have sp := containsBad_spec d.add[j]
    have hcl := cellRows_len d.add[j]
    rw [List.drop_eq_getElem_cons hlt, List.all_cons] at hall
    generalize d.add[j] = r at *
    repeat (first | refine gA ?_ | refine gB ?_ | refine gC rfl ?_ | refine gD rfl ?_ | ((first | refine gE env hN (by kernel_rfl) ?_ | refine gF ?_ | refine gG ?_ | refine gH fun hlen => ?_ | refine gI (by kernel_rfl) ?_ | refine gN rfl ?_ | refine gN (by omega) ?_ | refine gJ rfl ?_ | refine gK (by omega) ?_ | refine gL (by omega) ?_ | refine gK rfl ?_ | refine gO ?_); conv => whnf))
    refine rowAt_of (by simpa using hg) ?_
    conv => whnf
    repeat (first | refine gA ?_ | refine gB ?_ | refine gC rfl ?_ | refine gD rfl ?_ | ((first | refine gE env hN (by kernel_rfl) ?_ | refine gF ?_ | refine gG ?_ | refine gH fun hlen => ?_ | refine gI (by kernel_rfl) ?_ | refine gN rfl ?_ | refine gN (by omega) ?_ | refine gJ rfl ?_ | refine gK (by omega) ?_ | refine gL (by omega) ?_ | refine gK rfl ?_ | refine gO ?_); conv => whnf))
    refine boolRes_split (fun hb => ?_) (fun hb => ?_) <;> conv => whnf
    · have hne : ¬ (r.length : Int) = n := by omega
      repeat (first | refine gA ?_ | refine gB ?_ | refine gC rfl ?_ | refine gD rfl ?_ | ((first | refine gE env hN (by kernel_rfl) ?_ | refine gF ?_ | refine gG ?_ | refine gH fun hlen => ?_ | refine gI (by kernel_rfl) ?_ | refine gN rfl ?_ | refine gN (by omega) ?_ | refine gJ rfl ?_ | refine gK (by omega) ?_ | refine gL (by omega) ?_ | refine gK rfl ?_ | refine gO ?_ | refine gM ?_); conv => whnf))
      exact ret0 rfl (congrArg V.bool (by unfold goodD; rw [hall]; simp [hne])) rfl
    · have hne : (r.length : Int) = n := by omega
      repeat (first | refine gA ?_ | refine gB ?_ | refine gC rfl ?_ | refine gD rfl ?_ | ((first | refine gE env hN (by kernel_rfl) ?_ | refine gF ?_ | refine gG ?_ | refine gH fun hlen => ?_ | refine gI (by kernel_rfl) ?_ | refine gN rfl ?_ | refine gN (by omega) ?_ | refine gJ rfl ?_ | refine gK (by omega) ?_ | refine gL (by omega) ?_ | refine gK rfl ?_ | refine gO ?_); conv => whnf))
      cases hb2 : r.any badB with
      | true =>
        rw [hb2] at sp
        (refine ⟨_, _, _, callG [] [] [] rfl rfl rfl (by kernel_rfl) (sp) (by repeat' (first | exact trivial | exact Lent.refl _ | exact Lent.norm _ | apply And.intro)) rfl ⟨rfl, rfl, rfl, rfl, rfl, trivial, rfl, rfl⟩, ?_⟩; conv => whnf)
        repeat (first | refine gA ?_ | refine gB ?_ | refine gC rfl ?_ | refine gD rfl ?_ | ((first | refine gE env hN (by kernel_rfl) ?_ | refine gF ?_ | refine gG ?_ | refine gH fun hlen => ?_ | refine gI (by kernel_rfl) ?_ | refine gN rfl ?_ | refine gN (by omega) ?_ | refine gJ rfl ?_ | refine gK (by omega) ?_ | refine gL (by omega) ?_ | refine gK rfl ?_ | refine gO ?_ | refine gM ?_); conv => whnf))
        exact ret0 rfl (congrArg V.bool (by unfold goodD; rw [hall, hb2]; simp)) rfl
      | false =>
        rw [hb2] at sp
        (refine ⟨_, _, _, callG [] [] [] rfl rfl rfl (by kernel_rfl) (sp) (by repeat' (first | exact trivial | exact Lent.refl _ | exact Lent.norm _ | apply And.intro)) rfl ⟨rfl, rfl, rfl, rfl, rfl, trivial, rfl, rfl⟩, ?_⟩; conv => whnf)
        repeat (first | refine gA ?_ | refine gB ?_ | refine gC rfl ?_ | refine gD rfl ?_ | ((first | refine gE env hN (by kernel_rfl) ?_ | refine gF ?_ | refine gG ?_ | refine gH fun hlen => ?_ | refine gI (by kernel_rfl) ?_ | refine gN rfl ?_ | refine gN (by omega) ?_ | refine gJ rfl ?_ | refine gK (by omega) ?_ | refine gL (by omega) ?_ | refine gK rfl ?_ | refine gO ?_); conv => whnf))
        refine ⟨_, _, ?_, ⟨j + 1, by omega, by rw [hall, hb2]; simp [hne], rfl, rfl⟩, ⟨[(2, 2)], [], [], LeG.mk' rfl rfl rfl (by repeat' (first | exact trivial | exact ⟨_, .refl _, rfl⟩ | apply And.intro)) (.cons 2 rfl rfl (.refl _) rfl .nil) rfl rfl (by rw [hK]; rfl)⟩⟩
        omega
  · have hje : j = d.add.length := by omega
    rw [hje, List.drop_length] at hall
    repeat (first | refine gA ?_ | refine gB ?_ | refine gC rfl ?_ | refine gD rfl ?_ | ((first | refine gE env hN (by kernel_rfl) ?_ | refine gF ?_ | refine gG ?_ | refine gH fun hlen => ?_ | refine gI (by kernel_rfl) ?_ | refine gN rfl ?_ | refine gN (by omega) ?_ | refine gJ rfl ?_ | refine gK (by omega) ?_ | refine gL (by omega) ?_ | refine gK rfl ?_ | refine gO ?_); conv => whnf))
    (refine ⟨_, _, _, callG [] [] [] rfl rfl rfl (by kernel_rfl) (spD) (by repeat' (first | exact trivial | exact Lent.refl _ | exact Lent.norm _ | apply And.intro)) rfl ⟨rfl, rfl, rfl, rfl, rfl, trivial, rfl, rfl⟩, ?_⟩; conv => whnf)
    repeat (first | refine gA ?_ | refine gB ?_ | refine gC rfl ?_ | refine gD rfl ?_ | ((first | refine gE env hN (by kernel_rfl) ?_ | refine gF ?_ | refine gG ?_ | refine gH fun hlen => ?_ | refine gI (by kernel_rfl) ?_ | refine gN rfl ?_ | refine gN (by omega) ?_ | refine gJ rfl ?_ | refine gK (by omega) ?_ | refine gL (by omega) ?_ | refine gK rfl ?_ | refine gO ?_ | refine gM ?_); conv => whnf))
    exact ret0 rfl (congrArg V.bool (by unfold goodD; rw [hall]; simp)) rfl
end Go.Sx.Sp
namespace Go.Sx.Sp
open Go Go.Sx Go.Proofs
attribute [local irreducible] GoodW
structure Keyed (es : List (Nat × V × V)) (L : List Str) : Prop where
  ks : es.map (fun p => p.2.1) = L.map V.str
  nd : L.Nodup
  vs : ∀ p ∈ es, ∃ n : Int, p.2.2 = V.int .i64 n
theorem keyed_look {t : Str} : ∀ (L : List Str) (es : List (Nat × V × V)), es.map (fun p => p.2.1) = L.map V.str → (∀ p ∈ es, ∃ n : Int, p.2.2 = V.int .i64 n) → (t ∈ L → ∃ (j b : Nat) (n : Int), mapAt (.str t) es = some (some (j, b, .int .i64 n)) ∧ L[j]? = some t) ∧ (t ∉ L → mapAt (.str t) es = some none) := by
  intro L
  induction L with
  | nil =>
    intro es h _
    have : es = [] := by simpa using h
    subst this
    exact ⟨fun h => (by cases h), fun _ => rfl⟩
  | cons s L ih =>
    intro es h hv
    cases es with
    | nil => simp at h
    | cons p es =>
      obtain ⟨b, k, v⟩ := p
      simp only [List.map_cons, List.cons.injEq] at h
      obtain ⟨hk, ht⟩ := h
      have hk : k = .str s := hk
      subst hk
      obtain ⟨n, hn⟩ := hv _ List.mem_cons_self
      have hn : v = .int .i64 n := hn
      subst hn
      obtain ⟨i1, i2⟩ := ih es ht (fun p hp => hv p (List.mem_cons_of_mem _ hp))
      by_cases e : t = s
      · subst e
        exact ⟨fun _ => ⟨0, b, n, by simp [mapAt, eqKey], rfl⟩, fun h => absurd List.mem_cons_self h⟩
      · have he : eqKey (.str t) (.str s) = some false := by simp [eqKey, e]
        refine ⟨fun h => ?_, fun h => ?_⟩
        · obtain ⟨j, b', v', q1, q2⟩ := i1 (by simpa [e] using h)
          exact ⟨j + 1, b', v', by simp [mapAt, he, q1], by simpa using q2⟩
        · have := i2 (by simp at h; exact h.2)
          simp [mapAt, he, this]
theorem Keyed.yes {es : List (Nat × V × V)} {L : List Str} (h : Keyed es L) {t : Str} (ht : t ∈ L) : ∃ (j b : Nat) (n : Int), mapAt (.str t) es = some (some (j, b, .int .i64 n)) ∧ L[j]? = some t := (keyed_look L es h.ks h.vs).1 ht
theorem Keyed.no {es : List (Nat × V × V)} {L : List Str} (h : Keyed es L) {t : Str} (ht : t ∉ L) : mapAt (.str t) es = some none := (keyed_look L es h.ks h.vs).2 ht
theorem map_eraseIdx' {α β : Type} (f : α → β) : ∀ (l : List α) (j : Nat), (l.eraseIdx j).map f = (l.map f).eraseIdx j
  | [], j => by simp
  | a :: l, 0 => by simp
  | a :: l, j + 1 => by simp [map_eraseIdx' f l j]
theorem erase_at {t : Str} : ∀ {L : List Str} {j : Nat}, L.Nodup → L[j]? = some t → L.erase t = L.eraseIdx j
  | [], j, _, h => by simp at h
  | s :: L, 0, _, h => by simp at h; subst h; simp
  | s :: L, j + 1, hn, h => by
    simp at h
    have hm := List.mem_of_getElem? h
    have hne : s ≠ t := fun e => by subst e; exact (List.nodup_cons.1 hn).1 hm
    rw [List.erase_cons_tail (by simpa using hne), List.eraseIdx_cons_succ, erase_at (List.nodup_cons.1 hn).2 h]
theorem Keyed.erase {es : List (Nat × V × V)} {L : List Str} (h : Keyed es L) {t : Str} {j : Nat} (hj : L[j]? = some t) : Keyed (es.eraseIdx j) (L.erase t) := by
  have he := erase_at h.nd hj
  refine ⟨?_, h.nd.erase _, fun p hp => h.vs p (List.mem_of_mem_eraseIdx hp)⟩
  rw [he, map_eraseIdx', map_eraseIdx', h.ks]
theorem Keyed.snoc {es : List (Nat × V × V)} {L : List Str} (h : Keyed es L) {t : Str} (ht : t ∉ L) (c : Nat) (n : Int) : Keyed (es ++ [(c, .str t, .int .i64 n)]) (L ++ [t]) := by
  refine ⟨by simp [h.ks], ?_, fun p hp => ?_⟩
  · rw [List.nodup_append]
    exact ⟨h.nd, by simp, fun a ha b hb => by simp at hb; subst hb; exact fun e => ht (e ▸ ha)⟩
  · rcases List.mem_append.1 hp with h1 | h1
    · exact h.vs p h1
    · simp at h1; subst h1; exact ⟨n, rfl⟩
theorem keyed_ix {L : List Str} (h : L.Nodup) : Keyed (ixMap L) L := by
  have : ∀ (l : List Str) (k : Nat), (mapG (fun i => .int .i64 i) k l).map (fun p => p.2.1) = l.map V.str ∧ ∀ p ∈ mapG (fun i => .int .i64 i) k l, ∃ n : Int, p.2.2 = V.int .i64 n := by
    intro l
    induction l with
    | nil => intro k; exact ⟨rfl, fun p hp => by simp [mapG] at hp⟩
    | cons s l ih =>
      intro k
      refine ⟨by simp [mapG, (ih (k + 1)).1], fun p hp => ?_⟩
      simp only [mapG, List.mem_cons] at hp
      rcases hp with rfl | hp
      · exact ⟨_, rfl⟩
      · exact (ih (k + 1)).2 p hp
  exact ⟨(this L 0).1, h, (this L 0).2⟩
def dropK (L : List Str) : List Cell → Option (List Str)
  | [] => some L
  | c :: cs => if c.text ∈ L ∧ c.null = false then dropK (L.erase c.text) cs else none
def addK (k : Nat) (L : List Str) : List (List Cell) → Option (List Str)
  | [] => some L
  | r :: rs => if keyAt k r ∉ L ∧ (r.getD k ⟨false, []⟩).null = false then addK k (L ++ [keyAt k r]) rs else none
def clashD (L : List Str) (k : Nat) (d : Delta) : Bool :=
  match dropK L d.drop with
  | none => true
  | some L' => (addK k L' d.add).isNone
set_option maxHeartbeats 8000000 in
theorem clashD_spec (L : List Str) (es : List (Nat × V × V)) (ck : Nat) (hes : Keyed es L) (k : Nat) (d : Delta) (hk : ∀ r ∈ d.add, k < r.length) : Spec Tryd.prog 93 [.omap 0 0, .int .i64 k, .agg d.row] [(0, .map es ck (some []))] (.bool (clashD L k d)) [(0, .gone)] := by
  have hdl := cellRows_len d.drop
  have hal := lineRows_len d.add
  refine Spec.body env Tryd.func93 rfl (by kernel_rfl) (Nat.le_of_ble_eq_true (by kernel_rfl)) (keysSub rfl) fun Γ hN hK => ?_; have hML : maxLen = 9223372036854775807 := by unfold maxLen; rfl
  repeat (first | refine gA ?_ | refine gB ?_ | refine gC rfl ?_ | refine gD rfl ?_ | ((first | refine gE env hN (by kernel_rfl) ?_ | refine gF ?_ | refine gG ?_ | refine gH fun hlen => ?_ | refine gI (by kernel_rfl) ?_ | refine gN rfl ?_ | refine gN (by omega) ?_ | refine gJ rfl ?_ | refine gK (by omega) ?_ | refine gL (by omega) ?_ | refine gK rfl ?_ | refine gO ?_); conv => whnf))
  refine W.loopG (fun m st => ∃ (j : Nat) (L' : List Str) (es' : List (Nat × V × V)) (c' : Nat), j ≤ d.drop.length ∧ Keyed es' L' ∧ dropK L d.drop = dropK L' (d.drop.drop j) ∧ m = d.drop.length - j ∧
      st = ⟨[(0, .omap 0 0), (1, .int .i64 k), (5, .bp 5 0), (16, .sl (cellRows d.drop) false), (17, .int .i64 (cellRows d.drop).length), (18, .int .i64 j)], [(0, [.map es' c' (some [])]), (5, [.rows 2 [d.row] none])], [0, 5]⟩)
    d.drop.length _ ⟨0, L, es, ck, by omega, hes, rfl, by omega, rfl⟩ ⟨[(0, 0), (5, 5)], [], [], LeG.mk' rfl rfl rfl (by repeat' (first | exact trivial | exact ⟨_, .refl _, rfl⟩ | apply And.intro)) (.cons 0 rfl rfl (.refl _) rfl (.cons 5 rfl rfl (.refl _) rfl .nil)) rfl rfl (by rw [hK]; rfl)⟩ ?_
  rintro m st ⟨j, L', es', c', hj, hK', hdr, rfl, rfl⟩
  repeat (first | refine gA ?_ | refine gB ?_ | refine gC rfl ?_ | refine gD rfl ?_ | ((first | refine gE env hN (by kernel_rfl) ?_ | refine gF ?_ | refine gG ?_ | refine gH fun hlen => ?_ | refine gI (by kernel_rfl) ?_ | refine gN rfl ?_ | refine gN (by omega) ?_ | refine gJ rfl ?_ | refine gK (by omega) ?_ | refine gL (by omega) ?_ | refine gK rfl ?_ | refine gO ?_); conv => whnf))
  refine boolRes_split (fun hb => ?_) (fun hb => ?_) <;> conv => whnf
  · have hlt : j < d.drop.length := by omega
    have hg := cellRows_get hlt
    rw [List.drop_eq_getElem_cons hlt] at hdr
    generalize d.drop[j] = c at *
    simp only [dropK] at hdr
    repeat (first | refine gA ?_ | refine gB ?_ | refine gC rfl ?_ | refine gD rfl ?_ | ((first | refine gE env hN (by kernel_rfl) ?_ | refine gF ?_ | refine gG ?_ | refine gH fun hlen => ?_ | refine gI (by kernel_rfl) ?_ | refine gN rfl ?_ | refine gN (by omega) ?_ | refine gJ rfl ?_ | refine gK (by omega) ?_ | refine gL (by omega) ?_ | refine gK rfl ?_ | refine gO ?_); conv => whnf))
    refine rowAt_of (by simpa using hg) ?_
    conv => whnf
    repeat (first | refine gA ?_ | refine gB ?_ | refine gC rfl ?_ | refine gD rfl ?_ | ((first | refine gE env hN (by kernel_rfl) ?_ | refine gF ?_ | refine gG ?_ | refine gH fun hlen => ?_ | refine gI (by kernel_rfl) ?_ | refine gN rfl ?_ | refine gN (by omega) ?_ | refine gJ rfl ?_ | refine gK (by omega) ?_ | refine gL (by omega) ?_ | refine gK rfl ?_ | refine gO ?_); conv => whnf))
    refine zok_intro (by kernel_rfl) ?_
    conv => whnf
    by_cases hm : c.text ∈ L'
    · obtain ⟨i, b, v, q1, q2⟩ := hK'.yes hm
      refine ⟨_, q1, ?_⟩
      conv => whnf
      repeat (first | refine gA ?_ | refine gB ?_ | refine gC rfl ?_ | refine gD rfl ?_ | ((first | refine gE env hN (by kernel_rfl) ?_ | refine gF ?_ | refine gG ?_ | refine gH fun hlen => ?_ | refine gI (by kernel_rfl) ?_ | refine gN rfl ?_ | refine gN (by omega) ?_ | refine gJ rfl ?_ | refine gK (by omega) ?_ | refine gL (by omega) ?_ | refine gK rfl ?_ | refine gO ?_); conv => whnf))
      cases hn : c.null with
      | true =>
        repeat (first | refine gA ?_ | refine gB ?_ | refine gC rfl ?_ | refine gD rfl ?_ | ((first | refine gE env hN (by kernel_rfl) ?_ | refine gF ?_ | refine gG ?_ | refine gH fun hlen => ?_ | refine gI (by kernel_rfl) ?_ | refine gN rfl ?_ | refine gN (by omega) ?_ | refine gJ rfl ?_ | refine gK (by omega) ?_ | refine gL (by omega) ?_ | refine gK rfl ?_ | refine gO ?_); conv => whnf))
        have hT : clashD L k d = true := by unfold clashD; rw [hdr, if_neg (fun h => by rw [hn] at h; cases h.2)]
        refine W.leG (mp := [(0, 0)]) (bo := []) (st' := ⟨[(6, .bool true)], [(0, [.gone])], [0]⟩) (LeG.mk' rfl rfl rfl (by repeat' (first | exact trivial | exact ⟨_, .refl _, rfl⟩ | apply And.intro)) (.gone 0 rfl rfl rfl .nil) rfl rfl (by rw [hK]; rfl)) ?_
        (refine gM ?_; conv => whnf)
        exact retH rfl (by rw [hT]; exact .refl _) rfl rfl rfl ⟨rfl, rfl, trivial⟩
      | false =>
        repeat (first | refine gA ?_ | refine gB ?_ | refine gC rfl ?_ | refine gD rfl ?_ | ((first | refine gE env hN (by kernel_rfl) ?_ | refine gF ?_ | refine gG ?_ | refine gH fun hlen => ?_ | refine gI (by kernel_rfl) ?_ | refine gN rfl ?_ | refine gN (by omega) ?_ | refine gJ rfl ?_ | refine gK (by omega) ?_ | refine gL (by omega) ?_ | refine gK rfl ?_ | refine gO ?_); conv => whnf))
        refine ⟨_, q1, ?_⟩
        conv => whnf
        repeat (first | refine gA ?_ | refine gB ?_ | refine gC rfl ?_ | refine gD rfl ?_ | ((first | refine gE env hN (by kernel_rfl) ?_ | refine gF ?_ | refine gG ?_ | refine gH fun hlen => ?_ | refine gI (by kernel_rfl) ?_ | refine gN rfl ?_ | refine gN (by omega) ?_ | refine gJ rfl ?_ | refine gK (by omega) ?_ | refine gL (by omega) ?_ | refine gK rfl ?_ | refine gO ?_); conv => whnf))
        refine ⟨_, _, ?_, ⟨j + 1, _, _, _, by omega, hK'.erase q2, by rw [hdr, if_pos ⟨hm, hn⟩], rfl, rfl⟩, ⟨[(0, 0), (5, 5)], [], [], LeG.mk' rfl rfl rfl (by repeat' (first | exact trivial | exact ⟨_, .refl _, rfl⟩ | apply And.intro)) (.cons 0 rfl rfl (.refl _) rfl (.cons 5 rfl rfl (.refl _) rfl .nil)) rfl rfl (by rw [hK]; rfl)⟩⟩
        omega
    · refine ⟨_, hK'.no hm, ?_⟩
      conv => whnf
      repeat (first | refine gA ?_ | refine gB ?_ | refine gC rfl ?_ | refine gD rfl ?_ | ((first | refine gE env hN (by kernel_rfl) ?_ | refine gF ?_ | refine gG ?_ | refine gH fun hlen => ?_ | refine gI (by kernel_rfl) ?_ | refine gN rfl ?_ | refine gN (by omega) ?_ | refine gJ rfl ?_ | refine gK (by omega) ?_ | refine gL (by omega) ?_ | refine gK rfl ?_ | refine gO ?_); conv => whnf))
      have hT : clashD L k d = true := by unfold clashD; rw [hdr, if_neg (fun h => hm h.1)]
      refine W.leG (mp := [(0, 0)]) (bo := []) (st' := ⟨[(6, .bool true)], [(0, [.gone])], [0]⟩) (LeG.mk' rfl rfl rfl (by repeat' (first | exact trivial | exact ⟨_, .refl _, rfl⟩ | apply And.intro)) (.gone 0 rfl rfl rfl .nil) rfl rfl (by rw [hK]; rfl)) ?_
      (refine gM ?_; conv => whnf)
      exact retH rfl (by rw [hT]; exact .refl _) rfl rfl rfl ⟨rfl, rfl, trivial⟩
  · have hje : j = d.drop.length := by omega
    rw [hje, List.drop_length] at hdr
    repeat (first | refine gA ?_ | refine gB ?_ | refine gC rfl ?_ | refine gD rfl ?_ | ((first | refine gE env hN (by kernel_rfl) ?_ | refine gF ?_ | refine gG ?_ | refine gH fun hlen => ?_ | refine gI (by kernel_rfl) ?_ | refine gN rfl ?_ | refine gN (by omega) ?_ | refine gJ rfl ?_ | refine gK (by omega) ?_ | refine gL (by omega) ?_ | refine gK rfl ?_ | refine gO ?_); conv => whnf))
    refine W.loopG (fun m st => ∃ (j : Nat) (L'' : List Str) (es'' : List (Nat × V × V)) (c'' : Nat), j ≤ d.add.length ∧ Keyed es'' L'' ∧ addK k L' d.add = addK k L'' (d.add.drop j) ∧ m = d.add.length - j ∧
        st = ⟨[(0, .omap 0 0), (1, .int .i64 k), (5, .bp 5 0), (40, .sl (lineRows d.add) false), (41, .int .i64 (lineRows d.add).length), (42, .int .i64 j)], [(0, [.map es'' c'' (some [])]), (5, [.rows 2 [d.row] none])], [0, 5]⟩)
      d.add.length _ ⟨0, L', es', c', by omega, hK', rfl, by omega, rfl⟩ ⟨[(0, 0), (5, 5)], [], [], LeG.mk' rfl rfl rfl (by repeat' (first | exact trivial | exact ⟨_, .refl _, rfl⟩ | apply And.intro)) (.cons 0 rfl rfl (.refl _) rfl (.cons 5 rfl rfl (.refl _) rfl .nil)) rfl rfl (by rw [hK]; rfl)⟩ ?_
    rintro m st ⟨j, L'', es'', c'', hj, hK2, had, rfl, rfl⟩
    repeat (first | refine gA ?_ | refine gB ?_ | refine gC rfl ?_ | refine gD rfl ?_ | ((first | refine gE env hN (by kernel_rfl) ?_ | refine gF ?_ | refine gG ?_ | refine gH fun hlen => ?_ | refine gI (by kernel_rfl) ?_ | refine gN rfl ?_ | refine gN (by omega) ?_ | refine gJ rfl ?_ | refine gK (by omega) ?_ | refine gL (by omega) ?_ | refine gK rfl ?_ | refine gO ?_); conv => whnf))
    refine boolRes_split (fun hb => ?_) (fun hb => ?_) <;> conv => whnf
    · have hlt : j < d.add.length := by omega
      have hg := lineRows_get hlt
      have hkr := hk _ (List.getElem_mem hlt)
      rw [List.drop_eq_getElem_cons hlt] at had
      generalize d.add[j] = r at *
      have hg2 := cellRows_get hkr
      have hka : keyAt k r = r[k].text := by simp [keyAt, hkr]
      have hkn : r.getD k ⟨false, []⟩ = r[k] := by simp [hkr]
      simp only [addK] at had
      rw [hka, hkn] at had
      generalize r[k] = c at *
      repeat (first | refine gA ?_ | refine gB ?_ | refine gC rfl ?_ | refine gD rfl ?_ | ((first | refine gE env hN (by kernel_rfl) ?_ | refine gF ?_ | refine gG ?_ | refine gH fun hlen => ?_ | refine gI (by kernel_rfl) ?_ | refine gN rfl ?_ | refine gN (by omega) ?_ | refine gJ rfl ?_ | refine gK (by omega) ?_ | refine gL (by omega) ?_ | refine gK rfl ?_ | refine gO ?_); conv => whnf))
      refine rowAt_of (by simpa using hg) ?_
      conv => whnf
      repeat (first | refine gA ?_ | refine gB ?_ | refine gC rfl ?_ | refine gD rfl ?_ | ((first | refine gE env hN (by kernel_rfl) ?_ | refine gF ?_ | refine gG ?_ | refine gH fun hlen => ?_ | refine gI (by kernel_rfl) ?_ | refine gN rfl ?_ | refine gN (by omega) ?_ | refine gJ rfl ?_ | refine gK (by omega) ?_ | refine gL (by omega) ?_ | refine gK rfl ?_ | refine gO ?_); conv => whnf))
      refine rowAt_of (by simpa using hg2) ?_
      conv => whnf
      repeat (first | refine gA ?_ | refine gB ?_ | refine gC rfl ?_ | refine gD rfl ?_ | ((first | refine gE env hN (by kernel_rfl) ?_ | refine gF ?_ | refine gG ?_ | refine gH fun hlen => ?_ | refine gI (by kernel_rfl) ?_ | refine gN rfl ?_ | refine gN (by omega) ?_ | refine gJ rfl ?_ | refine gK (by omega) ?_ | refine gL (by omega) ?_ | refine gK rfl ?_ | refine gO ?_); conv => whnf))
      refine zok_intro (by kernel_rfl) ?_
      conv => whnf
      by_cases hm : c.text ∈ L''
      · obtain ⟨i, b, v, q1, q2⟩ := hK2.yes hm
        refine ⟨_, q1, ?_⟩
        conv => whnf
        repeat (first | refine gA ?_ | refine gB ?_ | refine gC rfl ?_ | refine gD rfl ?_ | ((first | refine gE env hN (by kernel_rfl) ?_ | refine gF ?_ | refine gG ?_ | refine gH fun hlen => ?_ | refine gI (by kernel_rfl) ?_ | refine gN rfl ?_ | refine gN (by omega) ?_ | refine gJ rfl ?_ | refine gK (by omega) ?_ | refine gL (by omega) ?_ | refine gK rfl ?_ | refine gO ?_); conv => whnf))
        have hT : clashD L k d = true := by unfold clashD; rw [hdr]; simp only [dropK]; rw [had, if_neg (fun h => h.1 hm)]; rfl
        refine W.leG (mp := [(0, 0)]) (bo := []) (st' := ⟨[(6, .bool true)], [(0, [.gone])], [0]⟩) (LeG.mk' rfl rfl rfl (by repeat' (first | exact trivial | exact ⟨_, .refl _, rfl⟩ | apply And.intro)) (.gone 0 rfl rfl rfl .nil) rfl rfl (by rw [hK]; rfl)) ?_
        (refine gM ?_; conv => whnf)
        exact retH rfl (by rw [hT]; exact .refl _) rfl rfl rfl ⟨rfl, rfl, trivial⟩
      · refine ⟨_, hK2.no hm, ?_⟩
        conv => whnf
        repeat (first | refine gA ?_ | refine gB ?_ | refine gC rfl ?_ | refine gD rfl ?_ | ((first | refine gE env hN (by kernel_rfl) ?_ | refine gF ?_ | refine gG ?_ | refine gH fun hlen => ?_ | refine gI (by kernel_rfl) ?_ | refine gN rfl ?_ | refine gN (by omega) ?_ | refine gJ rfl ?_ | refine gK (by omega) ?_ | refine gL (by omega) ?_ | refine gK rfl ?_ | refine gO ?_); conv => whnf))
        refine rowAt_of (by simpa using hg2) ?_
        conv => whnf
        repeat (first | refine gA ?_ | refine gB ?_ | refine gC rfl ?_ | refine gD rfl ?_ | ((first | refine gE env hN (by kernel_rfl) ?_ | refine gF ?_ | refine gG ?_ | refine gH fun hlen => ?_ | refine gI (by kernel_rfl) ?_ | refine gN rfl ?_ | refine gN (by omega) ?_ | refine gJ rfl ?_ | refine gK (by omega) ?_ | refine gL (by omega) ?_ | refine gK rfl ?_ | refine gO ?_); conv => whnf))
        cases hn : c.null with
        | true =>
          repeat (first | refine gA ?_ | refine gB ?_ | refine gC rfl ?_ | refine gD rfl ?_ | ((first | refine gE env hN (by kernel_rfl) ?_ | refine gF ?_ | refine gG ?_ | refine gH fun hlen => ?_ | refine gI (by kernel_rfl) ?_ | refine gN rfl ?_ | refine gN (by omega) ?_ | refine gJ rfl ?_ | refine gK (by omega) ?_ | refine gL (by omega) ?_ | refine gK rfl ?_ | refine gO ?_); conv => whnf))
          have hT : clashD L k d = true := by unfold clashD; rw [hdr]; simp only [dropK]; rw [had, if_neg (fun h => by rw [hn] at h; cases h.2)]; rfl
          refine W.leG (mp := [(0, 0)]) (bo := []) (st' := ⟨[(6, .bool true)], [(0, [.gone])], [0]⟩) (LeG.mk' rfl rfl rfl (by repeat' (first | exact trivial | exact ⟨_, .refl _, rfl⟩ | apply And.intro)) (.gone 0 rfl rfl rfl .nil) rfl rfl (by rw [hK]; rfl)) ?_
          (refine gM ?_; conv => whnf)
          exact retH rfl (by rw [hT]; exact .refl _) rfl rfl rfl ⟨rfl, rfl, trivial⟩
        | false =>
          repeat (first | refine gA ?_ | refine gB ?_ | refine gC rfl ?_ | refine gD rfl ?_ | ((first | refine gE env hN (by kernel_rfl) ?_ | refine gF ?_ | refine gG ?_ | refine gH fun hlen => ?_ | refine gI (by kernel_rfl) ?_ | refine gN rfl ?_ | refine gN (by omega) ?_ | refine gJ rfl ?_ | refine gK (by omega) ?_ | refine gL (by omega) ?_ | refine gK rfl ?_ | refine gO ?_); conv => whnf))
          refine rowAt_of (by simpa using hg2) ?_
          conv => whnf
          repeat (first | refine gA ?_ | refine gB ?_ | refine gC rfl ?_ | refine gD rfl ?_ | ((first | refine gE env hN (by kernel_rfl) ?_ | refine gF ?_ | refine gG ?_ | refine gH fun hlen => ?_ | refine gI (by kernel_rfl) ?_ | refine gN rfl ?_ | refine gN (by omega) ?_ | refine gJ rfl ?_ | refine gK (by omega) ?_ | refine gL (by omega) ?_ | refine gK rfl ?_ | refine gO ?_); conv => whnf))
          refine ⟨_, hK2.no hm, ?_⟩
          conv => whnf
          repeat (first | refine gA ?_ | refine gB ?_ | refine gC rfl ?_ | refine gD rfl ?_ | ((first | refine gE env hN (by kernel_rfl) ?_ | refine gF ?_ | refine gG ?_ | refine gH fun hlen => ?_ | refine gI (by kernel_rfl) ?_ | refine gN rfl ?_ | refine gN (by omega) ?_ | refine gJ rfl ?_ | refine gK (by omega) ?_ | refine gL (by omega) ?_ | refine gK rfl ?_ | refine gO ?_); conv => whnf))
          refine ⟨_, _, ?_, ⟨j + 1, _, _, _, by omega, hK2.snoc hm _ _, by rw [had, if_pos ⟨hm, hn⟩], rfl, rfl⟩, ⟨[(0, 0), (5, 5)], [], [], LeG.mk' rfl rfl rfl (by repeat' (first | exact trivial | exact ⟨_, .refl _, rfl⟩ | apply And.intro)) (.cons 0 rfl rfl (.refl _) rfl (.cons 5 rfl rfl (.refl _) rfl .nil)) rfl rfl (by rw [hK]; rfl)⟩⟩
          omega
    · have hje2 : j = d.add.length := by omega
      rw [hje2, List.drop_length] at had
      have hT : clashD L k d = false := by unfold clashD; rw [hdr]; simp only [dropK]; rw [had]; rfl
      repeat (first | refine gA ?_ | refine gB ?_ | refine gC rfl ?_ | refine gD rfl ?_ | ((first | refine gE env hN (by kernel_rfl) ?_ | refine gF ?_ | refine gG ?_ | refine gH fun hlen => ?_ | refine gI (by kernel_rfl) ?_ | refine gN rfl ?_ | refine gN (by omega) ?_ | refine gJ rfl ?_ | refine gK (by omega) ?_ | refine gL (by omega) ?_ | refine gK rfl ?_ | refine gO ?_); conv => whnf))
      refine W.leG (mp := [(0, 0)]) (bo := []) (st' := ⟨[(6, .bool false)], [(0, [.gone])], [0]⟩) (LeG.mk' rfl rfl rfl (by repeat' (first | exact trivial | exact ⟨_, .refl _, rfl⟩ | apply And.intro)) (.gone 0 rfl rfl rfl .nil) rfl rfl (by rw [hK]; rfl)) ?_
      (refine gM ?_; conv => whnf)
      exact retH rfl (by rw [hT]; exact .refl _) rfl rfl rfl ⟨rfl, rfl, trivial⟩
end Go.Sx.Sp
namespace Go.Sx.Sp
open Go Go.Sx Go.Proofs
attribute [local irreducible] GoodW
def mayM (t : Table) (key : Int) (d : Delta) : Int :=
  if validB t = true ∧ goodD t.cols.length d = true then
    if checkM key [t] = 0 then
      if clashD (textsOf (colK t key.toNat)) key.toNat d = true then 26
      else if (rowsN t : Int) - d.drop.length + d.add.length > 4096 then 3 else 0
    else checkM key [t]
  else 1
theorem check_one {key : Int} {t : Table} (h : checkM key [t] = 0) : ∃ k : Nat, key = k ∧ k < t.cols.length ∧ keyB (colK t k) = true := by
  unfold checkM at h
  split at h
  · rename_i h1
    split at h
    · rename_i h2
      simp only [List.all_cons, List.all_nil, Bool.and_true] at h1 h2
      unfold inB at h1
      have h1 := of_decide_eq_true h1
      refine ⟨key.toNat, by omega, by omega, h2⟩
    · simp at h
  · simp at h
theorem valid_rows {t : Table} (h : validB t = true) : rowsN t ≤ 4096 := by
  simp only [validB, headB, Bool.and_eq_true, decide_eq_true_eq] at h; omega
set_option maxHeartbeats 8000000 in
theorem may_spec (t : Table) (key : Int) (d : Delta) (hda : d.add.length ≤ 4294967296) : Spec Tryd.prog 53 [.agg t.row, .int .i64 key, .agg d.row] [] (.int .i64 (mayM t key d)) [] := by
  have sp1 := valid_spec t
  have sp2 := goodD_spec d t.cols.length
  have sp3 := check_spec key [t]
  have sp4 := rows_spec t
  have hcl := colRows_len t.cols
  have hdl := cellRows_len d.drop
  have hal := lineRows_len d.add
  refine Spec.body env Tryd.func53 rfl (by kernel_rfl) (Nat.le_of_ble_eq_true (by kernel_rfl)) (keysSub rfl) fun Γ hN hK => ?_; have hML : maxLen = 9223372036854775807 := by unfold maxLen; rfl
  repeat (first | refine gA ?_ | refine gB ?_ | refine gC rfl ?_ | refine gD rfl ?_ | ((first | refine gE env hN (by kernel_rfl) ?_ | refine gF ?_ | refine gG ?_ | refine gH fun hlen => ?_ | refine gI (by kernel_rfl) ?_ | refine gN rfl ?_ | refine gN (by omega) ?_ | refine gJ rfl ?_ | refine gK (by omega) ?_ | refine gL (by omega) ?_ | refine gK rfl ?_ | refine gO ?_); conv => whnf))
  cases hv : validB t with
  | false =>
    rw [hv] at sp1
    have hT : mayM t key d = 1 := by simp [mayM, hv]
    (refine ⟨_, _, _, callG [] [] [] rfl rfl rfl (by kernel_rfl) (sp1) (by repeat' (first | exact trivial | exact Lent.refl _ | exact Lent.norm _ | apply And.intro)) rfl ⟨rfl, rfl, rfl, rfl, rfl, trivial, rfl, rfl⟩, ?_⟩; conv => whnf)
    repeat (first | refine gA ?_ | refine gB ?_ | refine gC rfl ?_ | refine gD rfl ?_ | ((first | refine gE env hN (by kernel_rfl) ?_ | refine gF ?_ | refine gG ?_ | refine gH fun hlen => ?_ | refine gI (by kernel_rfl) ?_ | refine gN rfl ?_ | refine gN (by omega) ?_ | refine gJ rfl ?_ | refine gK (by omega) ?_ | refine gL (by omega) ?_ | refine gK rfl ?_ | refine gO ?_ | refine gM ?_); conv => whnf))
    exact ret0 rfl (by rw [hT]; rfl) rfl
  | true =>
    rw [hv] at sp1
    (refine ⟨_, _, _, callG [] [] [] rfl rfl rfl (by kernel_rfl) (sp1) (by repeat' (first | exact trivial | exact Lent.refl _ | exact Lent.norm _ | apply And.intro)) rfl ⟨rfl, rfl, rfl, rfl, rfl, trivial, rfl, rfl⟩, ?_⟩; conv => whnf)
    repeat (first | refine gA ?_ | refine gB ?_ | refine gC rfl ?_ | refine gD rfl ?_ | ((first | refine gE env hN (by kernel_rfl) ?_ | refine gF ?_ | refine gG ?_ | refine gH fun hlen => ?_ | refine gI (by kernel_rfl) ?_ | refine gN rfl ?_ | refine gN (by omega) ?_ | refine gJ rfl ?_ | refine gK (by omega) ?_ | refine gL (by omega) ?_ | refine gK rfl ?_ | refine gO ?_); conv => whnf))
    rw [hcl]
    cases hg : goodD t.cols.length d with
    | false =>
      rw [hg] at sp2
      have hT : mayM t key d = 1 := by simp [mayM, hg]
      (refine ⟨_, _, _, callG [] [] [] rfl rfl rfl (by kernel_rfl) (sp2) (by repeat' (first | exact trivial | exact Lent.refl _ | exact Lent.norm _ | apply And.intro)) rfl ⟨rfl, rfl, rfl, rfl, rfl, trivial, rfl, rfl⟩, ?_⟩; conv => whnf)
      repeat (first | refine gA ?_ | refine gB ?_ | refine gC rfl ?_ | refine gD rfl ?_ | ((first | refine gE env hN (by kernel_rfl) ?_ | refine gF ?_ | refine gG ?_ | refine gH fun hlen => ?_ | refine gI (by kernel_rfl) ?_ | refine gN rfl ?_ | refine gN (by omega) ?_ | refine gJ rfl ?_ | refine gK (by omega) ?_ | refine gL (by omega) ?_ | refine gK rfl ?_ | refine gO ?_ | refine gM ?_); conv => whnf))
      exact ret0 rfl (by rw [hT]; rfl) rfl
    | true =>
      rw [hg] at sp2
      (refine ⟨_, _, _, callG [] [] [] rfl rfl rfl (by kernel_rfl) (sp2) (by repeat' (first | exact trivial | exact Lent.refl _ | exact Lent.norm _ | apply And.intro)) rfl ⟨rfl, rfl, rfl, rfl, rfl, trivial, rfl, rfl⟩, ?_⟩; conv => whnf)
      repeat (first | refine gA ?_ | refine gB ?_ | refine gC rfl ?_ | refine gD rfl ?_ | ((first | refine gE env hN (by kernel_rfl) ?_ | refine gF ?_ | refine gG ?_ | refine gH fun hlen => ?_ | refine gI (by kernel_rfl) ?_ | refine gN rfl ?_ | refine gN (by omega) ?_ | refine gJ rfl ?_ | refine gK (by omega) ?_ | refine gL (by omega) ?_ | refine gK rfl ?_ | refine gO ?_); conv => whnf))
      (refine ⟨_, _, _, callG [] [] [] rfl rfl rfl (by kernel_rfl) (sp3) (by repeat' (first | exact trivial | exact Lent.refl _ | exact Lent.norm _ | apply And.intro)) rfl ⟨rfl, rfl, rfl, rfl, rfl, trivial, rfl, rfl⟩, ?_⟩; conv => whnf)
      repeat (first | refine gA ?_ | refine gB ?_ | refine gC rfl ?_ | refine gD rfl ?_ | ((first | refine gE env hN (by kernel_rfl) ?_ | refine gF ?_ | refine gG ?_ | refine gH fun hlen => ?_ | refine gI (by kernel_rfl) ?_ | refine gN rfl ?_ | refine gN (by omega) ?_ | refine gJ rfl ?_ | refine gK (by omega) ?_ | refine gL (by omega) ?_ | refine gK rfl ?_ | refine gO ?_); conv => whnf))
      by_cases hc : checkM key [t] = 0
      · rw [hc]
        repeat (first | refine gA ?_ | refine gB ?_ | refine gC rfl ?_ | refine gD rfl ?_ | ((first | refine gE env hN (by kernel_rfl) ?_ | refine gF ?_ | refine gG ?_ | refine gH fun hlen => ?_ | refine gI (by kernel_rfl) ?_ | refine gN rfl ?_ | refine gN (by omega) ?_ | refine gJ rfl ?_ | refine gK (by omega) ?_ | refine gL (by omega) ?_ | refine gK rfl ?_ | refine gO ?_); conv => whnf))
        obtain ⟨k, rfl, hk, hkb⟩ := check_one hc
        obtain ⟨nA, dA⟩ := (keyB_iff _).1 hkb
        have eA : colK t k = t.cols[k].cells := by simp [colK, hk]
        have hadd : ∀ r ∈ d.add, k < r.length := fun r hr => by
          simp only [goodD, Bool.and_eq_true, List.all_eq_true] at hg
          have := (hg.1 r hr).1
          have := of_decide_eq_true this
          omega
        have sp5 := byKey_spec t k hk (by rw [← eA]; exact dA)
        rw [← eA] at sp5
        have sp6 := clashD_spec (textsOf (colK t k)) (ixMap (textsOf (colK t k))) (textsOf (colK t k)).length (keyed_ix dA) k d hadd
        (refine ⟨_, _, _, callG [] [(8, 61)] [] rfl rfl rfl (by kernel_rfl) (sp5) (by repeat' (first | exact trivial | exact Lent.refl _ | exact Lent.norm _ | apply And.intro)) rfl ⟨rfl, rfl, rfl, rfl, rfl, by repeat' (first | exact trivial | rfl | apply And.intro), rfl, rfl⟩, ?_⟩; conv => whnf)
        repeat (first | refine gA ?_ | refine gB ?_ | refine gC rfl ?_ | refine gD rfl ?_ | ((first | refine gE env hN (by kernel_rfl) ?_ | refine gF ?_ | refine gG ?_ | refine gH fun hlen => ?_ | refine gI (by kernel_rfl) ?_ | refine gN rfl ?_ | refine gN (by omega) ?_ | refine gJ rfl ?_ | refine gK (by omega) ?_ | refine gL (by omega) ?_ | refine gK rfl ?_ | refine gO ?_); conv => whnf))
        cases hcd : clashD (textsOf (colK t k)) k d with
        | true =>
          rw [hcd] at sp6
          have hT : mayM t k d = 26 := by simp [mayM, hv, hg, hc, hcd]
          (refine ⟨_, _, _, callG [(0, 61)] [] [] rfl rfl rfl (by kernel_rfl) (sp6) (by repeat' (first | exact trivial | exact Lent.refl _ | exact Lent.norm _ | apply And.intro)) rfl ⟨rfl, rfl, rfl, rfl, rfl, by repeat' (first | exact trivial | rfl | apply And.intro), rfl, rfl⟩, ?_⟩; conv => whnf)
          repeat (first | refine gA ?_ | refine gB ?_ | refine gC rfl ?_ | refine gD rfl ?_ | ((first | refine gE env hN (by kernel_rfl) ?_ | refine gF ?_ | refine gG ?_ | refine gH fun hlen => ?_ | refine gI (by kernel_rfl) ?_ | refine gN rfl ?_ | refine gN (by omega) ?_ | refine gJ rfl ?_ | refine gK (by omega) ?_ | refine gL (by omega) ?_ | refine gK rfl ?_ | refine gO ?_ | refine gM ?_); conv => whnf))
          exact ret0 rfl (by rw [hT]; rfl) rfl
        | false =>
          rw [hcd] at sp6
          have hrn := valid_rows hv
          (refine ⟨_, _, _, callG [(0, 61)] [] [] rfl rfl rfl (by kernel_rfl) (sp6) (by repeat' (first | exact trivial | exact Lent.refl _ | exact Lent.norm _ | apply And.intro)) rfl ⟨rfl, rfl, rfl, rfl, rfl, by repeat' (first | exact trivial | rfl | apply And.intro), rfl, rfl⟩, ?_⟩; conv => whnf)
          repeat (first | refine gA ?_ | refine gB ?_ | refine gC rfl ?_ | refine gD rfl ?_ | ((first | refine gE env hN (by kernel_rfl) ?_ | refine gF ?_ | refine gG ?_ | refine gH fun hlen => ?_ | refine gI (by kernel_rfl) ?_ | refine gN rfl ?_ | refine gN (by omega) ?_ | refine gJ rfl ?_ | refine gK (by omega) ?_ | refine gL (by omega) ?_ | refine gK rfl ?_ | refine gO ?_); conv => whnf))
          (refine ⟨_, _, _, callG [] [] [] rfl rfl rfl (by kernel_rfl) (sp4) (by repeat' (first | exact trivial | exact Lent.refl _ | exact Lent.norm _ | apply And.intro)) rfl ⟨rfl, rfl, rfl, rfl, rfl, trivial, rfl, rfl⟩, ?_⟩; conv => whnf)
          repeat (first | refine gA ?_ | refine gB ?_ | refine gC rfl ?_ | refine gD rfl ?_ | ((first | refine gE env hN (by kernel_rfl) ?_ | refine gF ?_ | refine gG ?_ | refine gH fun hlen => ?_ | refine gI (by kernel_rfl) ?_ | refine gN rfl ?_ | refine gN (by omega) ?_ | refine gJ rfl ?_ | refine gK (by omega) ?_ | refine gL (by omega) ?_ | refine gK rfl ?_ | refine gO ?_); conv => whnf))
          refine boolRes_split (fun hb => ?_) (fun hb => ?_) <;> conv => whnf
          · have hT : mayM t k d = 3 := by
              have h1 : (rowsN t : Int) - d.drop.length + d.add.length > 4096 := by omega
              simp [mayM, hv, hg, hc, hcd, h1]
            repeat (first | refine gA ?_ | refine gB ?_ | refine gC rfl ?_ | refine gD rfl ?_ | ((first | refine gE env hN (by kernel_rfl) ?_ | refine gF ?_ | refine gG ?_ | refine gH fun hlen => ?_ | refine gI (by kernel_rfl) ?_ | refine gN rfl ?_ | refine gN (by omega) ?_ | refine gJ rfl ?_ | refine gK (by omega) ?_ | refine gL (by omega) ?_ | refine gK rfl ?_ | refine gO ?_ | refine gM ?_); conv => whnf))
            exact ret0 rfl (by rw [hT]; rfl) rfl
          · have hT : mayM t k d = 0 := by
              have h1 : ¬ (rowsN t : Int) - d.drop.length + d.add.length > 4096 := by omega
              simp only [mayM, Int.toNat_natCast]; rw [if_pos ⟨hv, hg⟩, if_pos hc, if_neg (by rw [hcd]; simp), if_neg h1]
            repeat (first | refine gA ?_ | refine gB ?_ | refine gC rfl ?_ | refine gD rfl ?_ | ((first | refine gE env hN (by kernel_rfl) ?_ | refine gF ?_ | refine gG ?_ | refine gH fun hlen => ?_ | refine gI (by kernel_rfl) ?_ | refine gN rfl ?_ | refine gN (by omega) ?_ | refine gJ rfl ?_ | refine gK (by omega) ?_ | refine gL (by omega) ?_ | refine gK rfl ?_ | refine gO ?_ | refine gM ?_); conv => whnf))
            exact ret0 rfl (by rw [hT]; rfl) rfl
      · have hT : mayM t key d = checkM key [t] := by simp [mayM, hv, hg, hc]
        repeat (first | refine gA ?_ | refine gB ?_ | refine gC rfl ?_ | refine gD rfl ?_ | ((first | refine gE env hN (by kernel_rfl) ?_ | refine gF ?_ | refine gG ?_ | refine gH fun hlen => ?_ | refine gI (by kernel_rfl) ?_ | refine gN rfl ?_ | refine gN (by omega) ?_ | refine gJ rfl ?_ | refine gK (by omega) ?_ | refine gL (by omega) ?_ | refine gK rfl ?_ | refine gO ?_ | refine gM ?_); conv => whnf))
        exact ret0 rfl (by rw [hT]; rfl) rfl
end Go.Sx.Sp
