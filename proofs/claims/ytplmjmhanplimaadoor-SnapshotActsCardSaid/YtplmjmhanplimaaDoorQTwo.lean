/- Contracts of collections. -/
import Derived.Test.YtplmjmhanplimaaDoorQOne
import Derived.Test.YtplmjmhanplimaaDoorSxFour
set_option linter.unusedVariables false
set_option linter.unusedSimpArgs false
namespace Go.Sx.Sp
open Go Go.Sx Go.Proofs
attribute [local irreducible] GoodW
structure Item where
  tab : Table
  from_ : Int
  until_ : Int
  deriving DecidableEq
structure Coll where
  version : Int
  oldest : Int
  items : List Item
  deriving DecidableEq
def Item.row (x : Item) : List V := [.int .i64 x.tab.id, .str x.tab.name, .sl (colRows x.tab.cols) false, .int .i64 x.from_, .int .i64 x.until_]
def itemRows (l : List Item) : List (List V) := l.map Item.row
def Coll.row (c : Coll) : List V := [.int .i64 c.version, .int .i64 c.oldest, .sl (itemRows c.items) false]
def Coll.zero : Coll := ⟨0, 0, []⟩
theorem itemRows_len (l : List Item) : (itemRows l).length = l.length := by simp [itemRows]
theorem itemRows_get {l : List Item} {i : Nat} (h : i < l.length) : (itemRows l)[i]? = some l[i].row := by simp [itemRows, h]
theorem itemRows_sz (l : List Item) : rowsSz (itemRows l) 5 := by
  unfold rowsSz
  intro r hr
  obtain ⟨c, _, rfl⟩ := List.mem_map.1 hr
  rfl
theorem colRows_sz (l : List Column) : rowsSz (colRows l) 2 := by
  unfold rowsSz
  intro r hr
  obtain ⟨c, _, rfl⟩ := List.mem_map.1 hr
  rfl
theorem cellRows_sz (l : List Cell) : rowsSz (cellRows l) 2 := by
  unfold rowsSz
  intro r hr
  obtain ⟨c, _, rfl⟩ := List.mem_map.1 hr
  rfl
theorem tblRows_sz (l : List Table) : rowsSz (tblRows l) 3 := by
  unfold rowsSz
  intro r hr
  obtain ⟨c, _, rfl⟩ := List.mem_map.1 hr
  rfl
theorem fitN {n b : Nat} (h : n ≤ 4294967296) (hb : 0 < b ∧ b ≤ 1024) : fitsV n b := by
  obtain ⟨h0, h1⟩ := hb
  have h2 : n * b ≤ 4294967296 * 1024 := Nat.mul_le_mul h h1
  exact ⟨by omega, by omega⟩
set_option maxHeartbeats 1000000 in
theorem cloneCols_own (rows : List (List V)) (hz : rowsSz rows 2) (hlen : rows.length ≤ 4294967296) : Spec Tryd.prog 94 [.sl rows false] [] (.osl 5 0 0 rows.length rows.length) [(5, .rows 2 rows (some []))] := by
  have hfit : fitsV rows.length 40 := fitN hlen (by omega)
  refine Spec.body env Tryd.func94 rfl (by kernel_rfl) (Nat.le_of_ble_eq_true (by kernel_rfl)) (keysSub rfl) fun Γ hN hK => ?_; have hML : maxLen = 9223372036854775807 := by unfold maxLen; rfl
  cases rows with
  | nil =>
    refine gA ?_
    (refine gE env hN (by kernel_rfl) ?_; conv => whnf)
    refine W.nilSplit (full := false) 0 (by rfl) ?_ ?_
    · repeat (first | refine gA ?_ | refine gB ?_ | refine gC rfl ?_ | refine gD rfl ?_ | ((first | refine gE env hN (by kernel_rfl) ?_ | refine gF ?_ | refine gG ?_ | refine gH fun hlen => ?_ | refine gI (by kernel_rfl) ?_ | refine gN rfl ?_ | refine gN (by omega) ?_ | refine gJ rfl ?_ | refine gK (by omega) ?_ | refine gL (by omega) ?_ | refine gK rfl ?_ | refine gO ?_); conv => whnf))
      refine W.ownNil 2 5 2 rfl rfl ?_
      (refine gM ?_; conv => whnf)
      exact retH rfl (.refl _) rfl rfl rfl ⟨rfl, rfl, trivial⟩
    · repeat (first | refine gA ?_ | refine gB ?_ | refine gC rfl ?_ | refine gD rfl ?_ | ((first | refine gE env hN (by kernel_rfl) ?_ | refine gF ?_ | refine gG ?_ | refine gH fun hlen => ?_ | refine gI (by kernel_rfl) ?_ | refine gN rfl ?_ | refine gN (by omega) ?_ | refine gJ rfl ?_ | refine gK (by omega) ?_ | refine gL (by omega) ?_ | refine gK rfl ?_); conv => whnf))
      refine Or.inl ?_
      conv => whnf
      repeat (first | refine gA ?_ | refine gB ?_ | refine gC rfl ?_ | refine gD rfl ?_ | ((first | refine gE env hN (by kernel_rfl) ?_ | refine gF ?_ | refine gG ?_ | refine gH fun hlen => ?_ | refine gI (by kernel_rfl) ?_ | refine gN rfl ?_ | refine gN (by omega) ?_ | refine gJ rfl ?_ | refine gK (by omega) ?_ | refine gL (by omega) ?_ | refine gK rfl ?_ | refine gO ?_); conv => whnf))
      refine ⟨⟨trivial, rfl⟩, ⟨by decide, by decide⟩, .inl ⟨rfl, rfl, ?_⟩⟩
      conv => whnf
      repeat (first | refine gA ?_ | refine gB ?_ | refine gC rfl ?_ | refine gD rfl ?_ | ((first | refine gE env hN (by kernel_rfl) ?_ | refine gF ?_ | refine gG ?_ | refine gH fun hlen => ?_ | refine gI (by kernel_rfl) ?_ | refine gN rfl ?_ | refine gN (by omega) ?_ | refine gJ rfl ?_ | refine gK (by omega) ?_ | refine gL (by omega) ?_ | refine gK rfl ?_ | refine gO ?_); conv => whnf))
      (refine gM ?_; conv => whnf)
      exact retH rfl (.refl _) rfl rfl rfl ⟨rfl, rfl, trivial⟩
  | cons r rs =>
    repeat (first | refine gA ?_ | refine gB ?_ | refine gC rfl ?_ | refine gD rfl ?_ | ((first | refine gE env hN (by kernel_rfl) ?_ | refine gF ?_ | refine gG ?_ | refine gH fun hlen => ?_ | refine gI (by kernel_rfl) ?_ | refine gN rfl ?_ | refine gN (by omega) ?_ | refine gJ rfl ?_ | refine gK (by omega) ?_ | refine gL (by omega) ?_ | refine gK rfl ?_); conv => whnf))
    refine Or.inl ?_
    conv => whnf
    repeat (first | refine gA ?_ | refine gB ?_ | refine gC rfl ?_ | refine gD rfl ?_ | ((first | refine gE env hN (by kernel_rfl) ?_ | refine gF ?_ | refine gG ?_ | refine gH fun hlen => ?_ | refine gI (by kernel_rfl) ?_ | refine gN rfl ?_ | refine gN (by omega) ?_ | refine gJ rfl ?_ | refine gK (by omega) ?_ | refine gL (by omega) ?_ | refine gK rfl ?_ | refine gO ?_); conv => whnf))
    refine ⟨⟨hz, rfl⟩, by simpa using hfit, .inl ⟨rfl, rfl, ?_⟩⟩
    simp only [Nat.zero_add, List.nil_append]
    conv => whnf
    repeat (first | refine gA ?_ | refine gB ?_ | refine gC rfl ?_ | refine gD rfl ?_ | ((first | refine gE env hN (by kernel_rfl) ?_ | refine gF ?_ | refine gG ?_ | refine gH fun hlen => ?_ | refine gI (by kernel_rfl) ?_ | refine gN rfl ?_ | refine gN (by omega) ?_ | refine gJ rfl ?_ | refine gK (by omega) ?_ | refine gL (by omega) ?_ | refine gK rfl ?_ | refine gO ?_); conv => whnf))
    (refine gM ?_; conv => whnf)
    exact retH rfl (.refl _) rfl rfl rfl ⟨rfl, rfl, trivial⟩
set_option maxHeartbeats 1000000 in
theorem cloneCells (rows : List (List V)) (hz : rowsSz rows 2) (hlen : rows.length ≤ 4294967296) : Spec Tryd.prog 95 [.sl rows false] [] (.sl rows false) [] := by
  have hfit : fitsV rows.length 24 := fitN hlen (by omega)
  refine Spec.body env Tryd.func95 rfl (by kernel_rfl) (Nat.le_of_ble_eq_true (by kernel_rfl)) (keysSub rfl) fun Γ hN hK => ?_; have hML : maxLen = 9223372036854775807 := by unfold maxLen; rfl
  cases rows with
  | nil =>
    refine gA ?_
    (refine gE env hN (by kernel_rfl) ?_; conv => whnf)
    refine W.nilSplit (full := false) 0 (by rfl) ?_ ?_
    · repeat (first | refine gA ?_ | refine gB ?_ | refine gC rfl ?_ | refine gD rfl ?_ | ((first | refine gE env hN (by kernel_rfl) ?_ | refine gF ?_ | refine gG ?_ | refine gH fun hlen => ?_ | refine gI (by kernel_rfl) ?_ | refine gN rfl ?_ | refine gN (by omega) ?_ | refine gJ rfl ?_ | refine gK (by omega) ?_ | refine gL (by omega) ?_ | refine gK rfl ?_ | refine gO ?_ | refine gM ?_); conv => whnf))
      exact ret0 rfl rfl rfl
    · repeat (first | refine gA ?_ | refine gB ?_ | refine gC rfl ?_ | refine gD rfl ?_ | ((first | refine gE env hN (by kernel_rfl) ?_ | refine gF ?_ | refine gG ?_ | refine gH fun hlen => ?_ | refine gI (by kernel_rfl) ?_ | refine gN rfl ?_ | refine gN (by omega) ?_ | refine gJ rfl ?_ | refine gK (by omega) ?_ | refine gL (by omega) ?_ | refine gK rfl ?_); conv => whnf))
      refine Or.inl ?_
      conv => whnf
      repeat (first | refine gA ?_ | refine gB ?_ | refine gC rfl ?_ | refine gD rfl ?_ | ((first | refine gE env hN (by kernel_rfl) ?_ | refine gF ?_ | refine gG ?_ | refine gH fun hlen => ?_ | refine gI (by kernel_rfl) ?_ | refine gN rfl ?_ | refine gN (by omega) ?_ | refine gJ rfl ?_ | refine gK (by omega) ?_ | refine gL (by omega) ?_ | refine gK rfl ?_ | refine gO ?_); conv => whnf))
      refine ⟨⟨trivial, rfl⟩, ⟨by decide, by decide⟩, .inl ⟨rfl, rfl, ?_⟩⟩
      conv => whnf
      repeat (first | refine gA ?_ | refine gB ?_ | refine gC rfl ?_ | refine gD rfl ?_ | ((first | refine gE env hN (by kernel_rfl) ?_ | refine gF ?_ | refine gG ?_ | refine gH fun hlen => ?_ | refine gI (by kernel_rfl) ?_ | refine gN rfl ?_ | refine gN (by omega) ?_ | refine gJ rfl ?_ | refine gK (by omega) ?_ | refine gL (by omega) ?_ | refine gK rfl ?_ | refine gO ?_); conv => whnf))
      refine W.leG (mp := []) (bo := [5]) (st' := ⟨[(2, .sl [] false)], [], []⟩) (LeG.mk' rfl rfl rfl ⟨⟨_, Lent.whole rfl rfl rfl rfl (.inl rfl), rfl⟩, trivial⟩ .nil rfl rfl (by rw [hK]; rfl)) ?_
      (refine gM ?_; conv => whnf)
      exact ret0 rfl rfl rfl
  | cons r rs =>
    repeat (first | refine gA ?_ | refine gB ?_ | refine gC rfl ?_ | refine gD rfl ?_ | ((first | refine gE env hN (by kernel_rfl) ?_ | refine gF ?_ | refine gG ?_ | refine gH fun hlen => ?_ | refine gI (by kernel_rfl) ?_ | refine gN rfl ?_ | refine gN (by omega) ?_ | refine gJ rfl ?_ | refine gK (by omega) ?_ | refine gL (by omega) ?_ | refine gK rfl ?_); conv => whnf))
    refine Or.inl ?_
    conv => whnf
    repeat (first | refine gA ?_ | refine gB ?_ | refine gC rfl ?_ | refine gD rfl ?_ | ((first | refine gE env hN (by kernel_rfl) ?_ | refine gF ?_ | refine gG ?_ | refine gH fun hlen => ?_ | refine gI (by kernel_rfl) ?_ | refine gN rfl ?_ | refine gN (by omega) ?_ | refine gJ rfl ?_ | refine gK (by omega) ?_ | refine gL (by omega) ?_ | refine gK rfl ?_ | refine gO ?_); conv => whnf))
    refine ⟨⟨hz, rfl⟩, by simpa using hfit, .inl ⟨rfl, rfl, ?_⟩⟩
    simp only [Nat.zero_add, List.nil_append]
    conv => whnf
    repeat (first | refine gA ?_ | refine gB ?_ | refine gC rfl ?_ | refine gD rfl ?_ | ((first | refine gE env hN (by kernel_rfl) ?_ | refine gF ?_ | refine gG ?_ | refine gH fun hlen => ?_ | refine gI (by kernel_rfl) ?_ | refine gN rfl ?_ | refine gN (by omega) ?_ | refine gJ rfl ?_ | refine gK (by omega) ?_ | refine gL (by omega) ?_ | refine gK rfl ?_ | refine gO ?_); conv => whnf))
    refine W.leG (mp := []) (bo := [5]) (st' := ⟨[(2, .sl (r :: rs) false)], [], []⟩) (LeG.mk' rfl rfl rfl ⟨⟨_, Lent.whole rfl rfl rfl rfl (.inl rfl), rfl⟩, trivial⟩ .nil rfl rfl (by rw [hK]; rfl)) ?_
    (refine gM ?_; conv => whnf)
    exact ret0 rfl rfl rfl
set_option maxHeartbeats 1000000 in
theorem cloneItems_own (rows : List (List V)) (hz : rowsSz rows 5) (hlen : rows.length ≤ 4294967296) : Spec Tryd.prog 103 [.sl rows false] [] (.osl 5 0 0 rows.length rows.length) [(5, .rows 5 rows (some []))] := by
  have hfit : fitsV rows.length 64 := fitN hlen (by omega)
  refine Spec.body env Tryd.func103 rfl (by kernel_rfl) (Nat.le_of_ble_eq_true (by kernel_rfl)) (keysSub rfl) fun Γ hN hK => ?_; have hML : maxLen = 9223372036854775807 := by unfold maxLen; rfl
  cases rows with
  | nil =>
    refine gA ?_
    (refine gE env hN (by kernel_rfl) ?_; conv => whnf)
    refine W.nilSplit (full := false) 0 (by rfl) ?_ ?_
    · repeat (first | refine gA ?_ | refine gB ?_ | refine gC rfl ?_ | refine gD rfl ?_ | ((first | refine gE env hN (by kernel_rfl) ?_ | refine gF ?_ | refine gG ?_ | refine gH fun hlen => ?_ | refine gI (by kernel_rfl) ?_ | refine gN rfl ?_ | refine gN (by omega) ?_ | refine gJ rfl ?_ | refine gK (by omega) ?_ | refine gL (by omega) ?_ | refine gK rfl ?_ | refine gO ?_); conv => whnf))
      refine W.ownNil 2 5 5 rfl rfl ?_
      (refine gM ?_; conv => whnf)
      exact retH rfl (.refl _) rfl rfl rfl ⟨rfl, rfl, trivial⟩
    · repeat (first | refine gA ?_ | refine gB ?_ | refine gC rfl ?_ | refine gD rfl ?_ | ((first | refine gE env hN (by kernel_rfl) ?_ | refine gF ?_ | refine gG ?_ | refine gH fun hlen => ?_ | refine gI (by kernel_rfl) ?_ | refine gN rfl ?_ | refine gN (by omega) ?_ | refine gJ rfl ?_ | refine gK (by omega) ?_ | refine gL (by omega) ?_ | refine gK rfl ?_); conv => whnf))
      refine Or.inl ?_
      conv => whnf
      repeat (first | refine gA ?_ | refine gB ?_ | refine gC rfl ?_ | refine gD rfl ?_ | ((first | refine gE env hN (by kernel_rfl) ?_ | refine gF ?_ | refine gG ?_ | refine gH fun hlen => ?_ | refine gI (by kernel_rfl) ?_ | refine gN rfl ?_ | refine gN (by omega) ?_ | refine gJ rfl ?_ | refine gK (by omega) ?_ | refine gL (by omega) ?_ | refine gK rfl ?_ | refine gO ?_); conv => whnf))
      refine ⟨⟨trivial, rfl⟩, ⟨by decide, by decide⟩, .inl ⟨rfl, rfl, ?_⟩⟩
      conv => whnf
      repeat (first | refine gA ?_ | refine gB ?_ | refine gC rfl ?_ | refine gD rfl ?_ | ((first | refine gE env hN (by kernel_rfl) ?_ | refine gF ?_ | refine gG ?_ | refine gH fun hlen => ?_ | refine gI (by kernel_rfl) ?_ | refine gN rfl ?_ | refine gN (by omega) ?_ | refine gJ rfl ?_ | refine gK (by omega) ?_ | refine gL (by omega) ?_ | refine gK rfl ?_ | refine gO ?_); conv => whnf))
      (refine gM ?_; conv => whnf)
      exact retH rfl (.refl _) rfl rfl rfl ⟨rfl, rfl, trivial⟩
  | cons r rs =>
    repeat (first | refine gA ?_ | refine gB ?_ | refine gC rfl ?_ | refine gD rfl ?_ | ((first | refine gE env hN (by kernel_rfl) ?_ | refine gF ?_ | refine gG ?_ | refine gH fun hlen => ?_ | refine gI (by kernel_rfl) ?_ | refine gN rfl ?_ | refine gN (by omega) ?_ | refine gJ rfl ?_ | refine gK (by omega) ?_ | refine gL (by omega) ?_ | refine gK rfl ?_); conv => whnf))
    refine Or.inl ?_
    conv => whnf
    repeat (first | refine gA ?_ | refine gB ?_ | refine gC rfl ?_ | refine gD rfl ?_ | ((first | refine gE env hN (by kernel_rfl) ?_ | refine gF ?_ | refine gG ?_ | refine gH fun hlen => ?_ | refine gI (by kernel_rfl) ?_ | refine gN rfl ?_ | refine gN (by omega) ?_ | refine gJ rfl ?_ | refine gK (by omega) ?_ | refine gL (by omega) ?_ | refine gK rfl ?_ | refine gO ?_); conv => whnf))
    refine ⟨⟨hz, rfl⟩, by simpa using hfit, .inl ⟨rfl, rfl, ?_⟩⟩
    simp only [Nat.zero_add, List.nil_append]
    conv => whnf
    repeat (first | refine gA ?_ | refine gB ?_ | refine gC rfl ?_ | refine gD rfl ?_ | ((first | refine gE env hN (by kernel_rfl) ?_ | refine gF ?_ | refine gG ?_ | refine gH fun hlen => ?_ | refine gI (by kernel_rfl) ?_ | refine gN rfl ?_ | refine gN (by omega) ?_ | refine gJ rfl ?_ | refine gK (by omega) ?_ | refine gL (by omega) ?_ | refine gK rfl ?_ | refine gO ?_); conv => whnf))
    (refine gM ?_; conv => whnf)
    exact retH rfl (.refl _) rfl rfl rfl ⟨rfl, rfl, trivial⟩
end Go.Sx.Sp
namespace Go.Sx.Sp
open Go Go.Sx Go.Proofs
attribute [local irreducible] GoodW
structure Table.Few (t : Table) : Prop where
  cols : t.cols.length ≤ 4294967296
  cells : ∀ c ∈ t.cols, c.cells.length ≤ 4294967296
def Coll.Few (c : Coll) : Prop := c.items.length ≤ 4294967296 ∧ ∀ x ∈ c.items, x.tab.Few
set_option maxHeartbeats 2000000 in
theorem listsOwn_spec (t : Table) (ht : t.Few) : Spec Tryd.prog 54 [.agg t.row] [] (.agg t.row) [] := by
  have hcl := colRows_len t.cols
  have hcs := ht.cols
  refine Spec.body env Tryd.func54 rfl (by kernel_rfl) (Nat.le_of_ble_eq_true (by kernel_rfl)) (keysSub rfl) fun Γ hN hK => ?_; have hML : maxLen = 9223372036854775807 := by unfold maxLen; rfl
  repeat (first | refine gA ?_ | refine gB ?_ | refine gC rfl ?_ | refine gD rfl ?_ | ((first | refine gE env hN (by kernel_rfl) ?_ | refine gF ?_ | refine gG ?_ | refine gH fun hlen => ?_ | refine gI (by kernel_rfl) ?_ | refine gN rfl ?_ | refine gN (by omega) ?_ | refine gJ rfl ?_ | refine gK (by omega) ?_ | refine gL (by omega) ?_ | refine gK rfl ?_ | refine gO ?_); conv => whnf))
  (refine ⟨_, _, _, callG [] [(5, 7)] [] rfl rfl rfl (by kernel_rfl) (cloneCols_own (colRows t.cols) (colRows_sz _) (by rw [hcl]; exact ht.cols)) (by repeat' (first | exact trivial | exact Lent.refl _ | exact Lent.norm _ | apply And.intro)) rfl ⟨rfl, rfl, rfl, rfl, rfl, by repeat' (first | exact trivial | rfl | apply And.intro), rfl, rfl⟩, ?_⟩; conv => whnf)
  repeat (first | refine gA ?_ | refine gB ?_ | refine gC rfl ?_ | refine gD rfl ?_ | ((first | refine gE env hN (by kernel_rfl) ?_ | refine gF ?_ | refine gG ?_ | refine gH fun hlen => ?_ | refine gI (by kernel_rfl) ?_ | refine gN rfl ?_ | refine gN (by omega) ?_ | refine gJ rfl ?_ | refine gK (by omega) ?_ | refine gL (by omega) ?_ | refine gK rfl ?_ | refine gO ?_); conv => whnf))
  refine W.loopG (fun n st => ∃ k, k ≤ t.cols.length ∧ n = t.cols.length - k ∧ st = ⟨[(1, .bp 1 0), (2, .bp 2 0), (10, .osl 7 0 0 (colRows t.cols).length (colRows t.cols).length), (11, .int .i64 (colRows t.cols).length), (12, .int .i64 k)], [(1, [.rows 3 [[.int .i64 t.id, .str t.name, .osl 7 0 0 (colRows t.cols).length (colRows t.cols).length]] none]), (2, [.rows 3 [[.int .i64 0, .str [], .nils]] none]), (7, [.rows 2 (colRows t.cols) (some [])])], [1, 2, 7]⟩)
    t.cols.length _ ⟨0, Nat.zero_le _, rfl, rfl⟩ ⟨[(1, 1), (2, 2), (7, 7)], [], [], LeG.mk' rfl rfl rfl (by repeat' (first | exact trivial | exact ⟨_, .refl _, rfl⟩ | apply And.intro)) (.cons 1 rfl rfl (.refl _) rfl (.cons 2 rfl rfl (.refl _) rfl (.cons 7 rfl rfl (.refl _) rfl .nil))) rfl rfl (by rw [hK]; rfl)⟩ ?_
  rintro n st ⟨k, hk, rfl, rfl⟩
  repeat (first | refine gA ?_ | refine gB ?_ | refine gC rfl ?_ | refine gD rfl ?_ | ((first | refine gE env hN (by kernel_rfl) ?_ | refine gF ?_ | refine gG ?_ | refine gH fun hlen => ?_ | refine gI (by kernel_rfl) ?_ | refine gN rfl ?_ | refine gN (by omega) ?_ | refine gJ rfl ?_ | refine gK (by omega) ?_ | refine gL (by omega) ?_ | refine gK rfl ?_ | refine gO ?_); conv => whnf))
  refine boolRes_split (fun hb => ?_) (fun hb => ?_) <;> conv => whnf
  · have hlt : k < t.cols.length := by omega
    have hx := colRows_get hlt
    have hcc := ht.cells _ (List.getElem_mem hlt)
    generalize t.cols[k] = c at *
    repeat (first | refine gA ?_ | refine gB ?_ | refine gC rfl ?_ | refine gD rfl ?_ | ((first | refine gE env hN (by kernel_rfl) ?_ | refine gF ?_ | refine gG ?_ | refine gH fun hlen => ?_ | refine gI (by kernel_rfl) ?_ | refine gN rfl ?_ | refine gN (by omega) ?_ | refine gJ rfl ?_ | refine gK (by omega) ?_ | refine gL (by omega) ?_ | refine gK rfl ?_ | refine gO ?_); conv => whnf))
    refine rowAt_of (by simpa using hx) ?_
    conv => whnf
    repeat (first | refine gA ?_ | refine gB ?_ | refine gC rfl ?_ | refine gD rfl ?_ | ((first | refine gE env hN (by kernel_rfl) ?_ | refine gF ?_ | refine gG ?_ | refine gH fun hlen => ?_ | refine gI (by kernel_rfl) ?_ | refine gN rfl ?_ | refine gN (by omega) ?_ | refine gJ rfl ?_ | refine gK (by omega) ?_ | refine gL (by omega) ?_ | refine gK rfl ?_ | refine gO ?_); conv => whnf))
    (refine ⟨_, _, _, callG [] [] [] rfl rfl rfl (by kernel_rfl) (cloneCells (cellRows c.cells) (cellRows_sz _) (by rw [cellRows_len]; exact hcc)) (by repeat' (first | exact trivial | exact Lent.refl _ | exact Lent.norm _ | apply And.intro)) rfl ⟨rfl, rfl, rfl, rfl, rfl, trivial, rfl, rfl⟩, ?_⟩; conv => whnf)
    repeat (first | refine gA ?_ | refine gB ?_ | refine gC rfl ?_ | refine gD rfl ?_ | ((first | refine gE env hN (by kernel_rfl) ?_ | refine gF ?_ | refine gG ?_ | refine gH fun hlen => ?_ | refine gI (by kernel_rfl) ?_ | refine gN rfl ?_ | refine gN (by omega) ?_ | refine gJ rfl ?_ | refine gK (by omega) ?_ | refine gL (by omega) ?_ | refine gK rfl ?_ | refine gO ?_); conv => whnf))
    refine rowAt_of (by simpa using hx) ?_
    conv => whnf
    repeat (first | refine gA ?_ | refine gB ?_ | refine gC rfl ?_ | refine gD rfl ?_ | ((first | refine gE env hN (by kernel_rfl) ?_ | refine gF ?_ | refine gG ?_ | refine gH fun hlen => ?_ | refine gI (by kernel_rfl) ?_ | refine gN rfl ?_ | refine gN (by omega) ?_ | refine gJ rfl ?_ | refine gK (by omega) ?_ | refine gL (by omega) ?_ | refine gK rfl ?_ | refine gO ?_); conv => whnf))
    have hset : (colRows t.cols).set (0 + (k : Int).toNat) [.str c.name, .sl (cellRows c.cells) false] = colRows t.cols := set_same (by simpa [Column.row] using hx)
    refine ⟨_, _, ?_, ⟨k + 1, by omega, rfl, rfl⟩, [(1, 1), (2, 2), (7, 7)], [], [], LeG.mk' rfl rfl rfl (by repeat' (first | exact trivial | exact ⟨_, .refl _, rfl⟩ | apply And.intro)) (.cons 1 rfl rfl (.refl _) rfl (.cons 2 rfl rfl (.refl _) rfl (.cons 7 rfl rfl (.refl _) (congrArg (fun r => [Blk.rows 2 r (some [])]) hset.symm) .nil))) rfl rfl (by rw [hK]; rfl)⟩
    omega
  · repeat (first | refine gA ?_ | refine gB ?_ | refine gC rfl ?_ | refine gD rfl ?_ | ((first | refine gE env hN (by kernel_rfl) ?_ | refine gF ?_ | refine gG ?_ | refine gH fun hlen => ?_ | refine gI (by kernel_rfl) ?_ | refine gN rfl ?_ | refine gN (by omega) ?_ | refine gJ rfl ?_ | refine gK (by omega) ?_ | refine gL (by omega) ?_ | refine gK rfl ?_ | refine gO ?_); conv => whnf))
    refine W.leG (mp := [(2, 2)]) (bo := [7]) (st' := ⟨[(2, .bp 2 0)], [(2, [.rows 3 [t.row] none])], [2]⟩) (LeG.mk' rfl rfl rfl (by repeat' (first | exact trivial | exact ⟨_, .refl _, rfl⟩ | apply And.intro)) (.cons 2 (b1 := .rows 3 [t.row] none) rfl rfl (.rows _ _ _ (by repeat' (first | exact trivial | exact ⟨Lent.refl _, rfl⟩ | exact ⟨Lent.norm _, rfl⟩ | exact ⟨Lent.whole rfl rfl (by first | rfl | exact List.length_append.symm | exact hlenR | simp) rfl (by first | exact .inl rfl | exact .inr rfl), rfl⟩ | apply And.intro))) rfl .nil) rfl rfl (by rw [hK]; rfl)) ?_
    (refine gM ?_; conv => whnf)
    exact ret0 rfl rfl rfl
set_option maxHeartbeats 2000000 in
theorem snapOwn_spec (c : Coll) (hc : c.Few) : Spec Tryd.prog 69 [.agg c.row] [] (.agg [.int .i64 c.version, .int .i64 c.oldest, .osl 7 0 0 (itemRows c.items).length (itemRows c.items).length]) [(7, .rows 5 (itemRows c.items) (some []))] := by
  have hcl := itemRows_len c.items
  have hcs := hc.1
  refine Spec.body env Tryd.func69 rfl (by kernel_rfl) (Nat.le_of_ble_eq_true (by kernel_rfl)) (keysSub rfl) fun Γ hN hK => ?_; have hML : maxLen = 9223372036854775807 := by unfold maxLen; rfl
  repeat (first | refine gA ?_ | refine gB ?_ | refine gC rfl ?_ | refine gD rfl ?_ | ((first | refine gE env hN (by kernel_rfl) ?_ | refine gF ?_ | refine gG ?_ | refine gH fun hlen => ?_ | refine gI (by kernel_rfl) ?_ | refine gN rfl ?_ | refine gN (by omega) ?_ | refine gJ rfl ?_ | refine gK (by omega) ?_ | refine gL (by omega) ?_ | refine gK rfl ?_ | refine gO ?_); conv => whnf))
  (refine ⟨_, _, _, callG [] [(5, 7)] [] rfl rfl rfl (by kernel_rfl) (cloneItems_own (itemRows c.items) (itemRows_sz _) (by rw [hcl]; exact hc.1)) (by repeat' (first | exact trivial | exact Lent.refl _ | exact Lent.norm _ | apply And.intro)) rfl ⟨rfl, rfl, rfl, rfl, rfl, by repeat' (first | exact trivial | rfl | apply And.intro), rfl, rfl⟩, ?_⟩; conv => whnf)
  repeat (first | refine gA ?_ | refine gB ?_ | refine gC rfl ?_ | refine gD rfl ?_ | ((first | refine gE env hN (by kernel_rfl) ?_ | refine gF ?_ | refine gG ?_ | refine gH fun hlen => ?_ | refine gI (by kernel_rfl) ?_ | refine gN rfl ?_ | refine gN (by omega) ?_ | refine gJ rfl ?_ | refine gK (by omega) ?_ | refine gL (by omega) ?_ | refine gK rfl ?_ | refine gO ?_); conv => whnf))
  refine W.loopG (fun n st => ∃ k, k ≤ c.items.length ∧ n = c.items.length - k ∧ st = ⟨[(1, .bp 1 0), (2, .bp 2 0), (10, .osl 7 0 0 (itemRows c.items).length (itemRows c.items).length), (11, .int .i64 (itemRows c.items).length), (12, .int .i64 k)], [(1, [.rows 3 [[.int .i64 c.version, .int .i64 c.oldest, .osl 7 0 0 (itemRows c.items).length (itemRows c.items).length]] none]), (2, [.rows 3 [[.int .i64 0, .int .i64 0, .nils]] none]), (7, [.rows 5 (itemRows c.items) (some [])])], [1, 2, 7]⟩)
    c.items.length _ ⟨0, Nat.zero_le _, rfl, rfl⟩ ⟨[(1, 1), (2, 2), (7, 7)], [], [], LeG.mk' rfl rfl rfl (by repeat' (first | exact trivial | exact ⟨_, .refl _, rfl⟩ | apply And.intro)) (.cons 1 rfl rfl (.refl _) rfl (.cons 2 rfl rfl (.refl _) rfl (.cons 7 rfl rfl (.refl _) rfl .nil))) rfl rfl (by rw [hK]; rfl)⟩ ?_
  rintro n st ⟨k, hk, rfl, rfl⟩
  repeat (first | refine gA ?_ | refine gB ?_ | refine gC rfl ?_ | refine gD rfl ?_ | ((first | refine gE env hN (by kernel_rfl) ?_ | refine gF ?_ | refine gG ?_ | refine gH fun hlen => ?_ | refine gI (by kernel_rfl) ?_ | refine gN rfl ?_ | refine gN (by omega) ?_ | refine gJ rfl ?_ | refine gK (by omega) ?_ | refine gL (by omega) ?_ | refine gK rfl ?_ | refine gO ?_); conv => whnf))
  refine boolRes_split (fun hb => ?_) (fun hb => ?_) <;> conv => whnf
  · have hlt : k < c.items.length := by omega
    have hx := itemRows_get hlt
    have hcc := hc.2 _ (List.getElem_mem hlt)
    generalize c.items[k] = x at *
    repeat (first | refine gA ?_ | refine gB ?_ | refine gC rfl ?_ | refine gD rfl ?_ | ((first | refine gE env hN (by kernel_rfl) ?_ | refine gF ?_ | refine gG ?_ | refine gH fun hlen => ?_ | refine gI (by kernel_rfl) ?_ | refine gN rfl ?_ | refine gN (by omega) ?_ | refine gJ rfl ?_ | refine gK (by omega) ?_ | refine gL (by omega) ?_ | refine gK rfl ?_ | refine gO ?_); conv => whnf))
    refine rowAt_of (by simpa using hx) ?_
    conv => whnf
    repeat (first | refine gA ?_ | refine gB ?_ | refine gC rfl ?_ | refine gD rfl ?_ | ((first | refine gE env hN (by kernel_rfl) ?_ | refine gF ?_ | refine gG ?_ | refine gH fun hlen => ?_ | refine gI (by kernel_rfl) ?_ | refine gN rfl ?_ | refine gN (by omega) ?_ | refine gJ rfl ?_ | refine gK (by omega) ?_ | refine gL (by omega) ?_ | refine gK rfl ?_ | refine gO ?_); conv => whnf))
    (refine ⟨_, _, _, callG [] [] [] rfl rfl rfl (by kernel_rfl) (listsOwn_spec x.tab hcc) (by repeat' (first | exact trivial | exact Lent.refl _ | exact Lent.norm _ | apply And.intro)) rfl ⟨rfl, rfl, rfl, rfl, rfl, trivial, rfl, rfl⟩, ?_⟩; conv => whnf)
    repeat (first | refine gA ?_ | refine gB ?_ | refine gC rfl ?_ | refine gD rfl ?_ | ((first | refine gE env hN (by kernel_rfl) ?_ | refine gF ?_ | refine gG ?_ | refine gH fun hlen => ?_ | refine gI (by kernel_rfl) ?_ | refine gN rfl ?_ | refine gN (by omega) ?_ | refine gJ rfl ?_ | refine gK (by omega) ?_ | refine gL (by omega) ?_ | refine gK rfl ?_ | refine gO ?_); conv => whnf))
    refine rowAt_of (by simpa using hx) ?_
    conv => whnf
    repeat (first | refine gA ?_ | refine gB ?_ | refine gC rfl ?_ | refine gD rfl ?_ | ((first | refine gE env hN (by kernel_rfl) ?_ | refine gF ?_ | refine gG ?_ | refine gH fun hlen => ?_ | refine gI (by kernel_rfl) ?_ | refine gN rfl ?_ | refine gN (by omega) ?_ | refine gJ rfl ?_ | refine gK (by omega) ?_ | refine gL (by omega) ?_ | refine gK rfl ?_ | refine gO ?_); conv => whnf))
    have hset : (itemRows c.items).set (0 + (k : Int).toNat) x.row = itemRows c.items := set_same (by simpa using hx)
    refine ⟨_, _, ?_, ⟨k + 1, by omega, rfl, rfl⟩, [(1, 1), (2, 2), (7, 7)], [], [], LeG.mk' rfl rfl rfl (by repeat' (first | exact trivial | exact ⟨_, .refl _, rfl⟩ | apply And.intro)) (.cons 1 rfl rfl (.refl _) rfl (.cons 2 rfl rfl (.refl _) rfl (.cons 7 rfl rfl (.refl _) (congrArg (fun r => [Blk.rows 5 r (some [])]) hset.symm) .nil))) rfl rfl (by rw [hK]; rfl)⟩
    omega
  · repeat (first | refine gA ?_ | refine gB ?_ | refine gC rfl ?_ | refine gD rfl ?_ | ((first | refine gE env hN (by kernel_rfl) ?_ | refine gF ?_ | refine gG ?_ | refine gH fun hlen => ?_ | refine gI (by kernel_rfl) ?_ | refine gN rfl ?_ | refine gN (by omega) ?_ | refine gJ rfl ?_ | refine gK (by omega) ?_ | refine gL (by omega) ?_ | refine gK rfl ?_ | refine gO ?_); conv => whnf))
    (refine gM ?_; conv => whnf)
    exact retH rfl (.refl _) rfl rfl rfl ⟨rfl, rfl, trivial⟩
end Go.Sx.Sp
namespace Go.Sx.Sp
open Go Go.Sx Go.Proofs
attribute [local irreducible] GoodW
def overB (a b : Item) : Bool := decide ((b.until_ = 0 ∨ a.from_ < b.until_) ∧ (a.until_ = 0 ∨ b.from_ < a.until_))
def restB (v : Int) (x : Item) : Bool := decide (1 ≤ x.tab.id ∧ 1 ≤ x.from_ ∧ x.from_ ≤ v ∧ (x.until_ = 0 ∨ x.from_ < x.until_ ∧ x.until_ ≤ v))
def properB (v : Int) (x : Item) : Bool := validB x.tab && restB v x
def clashB (x y : Item) : Bool := decide (y.tab.id = x.tab.id) && overB x y
set_option maxHeartbeats 2000000 in
theorem overlap_spec (a b : Item) : Spec Tryd.prog 75 [.agg a.row, .agg b.row] [] (.bool (overB a b)) [] := by
  refine Spec.body env Tryd.func75 rfl (by kernel_rfl) (Nat.le_of_ble_eq_true (by kernel_rfl)) (keysSub rfl) fun Γ hN hK => ?_; have hML : maxLen = 9223372036854775807 := by unfold maxLen; rfl
  ((repeat (first | refine gA ?_ | refine gB ?_ | refine gC rfl ?_ | refine gD rfl ?_ | ((first | refine gE env hN (by kernel_rfl) ?_ | refine gF ?_ | refine gG ?_ | refine gH fun hlen => ?_ | refine gI (by kernel_rfl) ?_ | refine gN rfl ?_ | refine gN (by omega) ?_ | refine gJ rfl ?_ | refine gK (by omega) ?_ | refine gL (by omega) ?_ | refine gK rfl ?_ | refine gO ?_ | refine gM ?_); conv => whnf))); first | (exact ret0 rfl (congrArg V.bool (by simp [overB]; omega)) rfl) | ((refine boolRes_split (fun hb => ?_) (fun hb => ?_) <;> conv => whnf) <;> ((repeat (first | refine gA ?_ | refine gB ?_ | refine gC rfl ?_ | refine gD rfl ?_ | ((first | refine gE env hN (by kernel_rfl) ?_ | refine gF ?_ | refine gG ?_ | refine gH fun hlen => ?_ | refine gI (by kernel_rfl) ?_ | refine gN rfl ?_ | refine gN (by omega) ?_ | refine gJ rfl ?_ | refine gK (by omega) ?_ | refine gL (by omega) ?_ | refine gK rfl ?_ | refine gO ?_ | refine gM ?_); conv => whnf))); first | (exact ret0 rfl (congrArg V.bool (by simp [overB]; omega)) rfl) | ((refine boolRes_split (fun hb => ?_) (fun hb => ?_) <;> conv => whnf) <;> ((repeat (first | refine gA ?_ | refine gB ?_ | refine gC rfl ?_ | refine gD rfl ?_ | ((first | refine gE env hN (by kernel_rfl) ?_ | refine gF ?_ | refine gG ?_ | refine gH fun hlen => ?_ | refine gI (by kernel_rfl) ?_ | refine gN rfl ?_ | refine gN (by omega) ?_ | refine gJ rfl ?_ | refine gK (by omega) ?_ | refine gL (by omega) ?_ | refine gK rfl ?_ | refine gO ?_ | refine gM ?_); conv => whnf))); first | (exact ret0 rfl (congrArg V.bool (by simp [overB]; omega)) rfl) | ((refine boolRes_split (fun hb => ?_) (fun hb => ?_) <;> conv => whnf) <;> ((repeat (first | refine gA ?_ | refine gB ?_ | refine gC rfl ?_ | refine gD rfl ?_ | ((first | refine gE env hN (by kernel_rfl) ?_ | refine gF ?_ | refine gG ?_ | refine gH fun hlen => ?_ | refine gI (by kernel_rfl) ?_ | refine gN rfl ?_ | refine gN (by omega) ?_ | refine gJ rfl ?_ | refine gK (by omega) ?_ | refine gL (by omega) ?_ | refine gK rfl ?_ | refine gO ?_ | refine gM ?_); conv => whnf))); first | (exact ret0 rfl (congrArg V.bool (by simp [overB]; omega)) rfl) | ((refine boolRes_split (fun hb => ?_) (fun hb => ?_) <;> conv => whnf) <;> ((repeat (first | refine gA ?_ | refine gB ?_ | refine gC rfl ?_ | refine gD rfl ?_ | ((first | refine gE env hN (by kernel_rfl) ?_ | refine gF ?_ | refine gG ?_ | refine gH fun hlen => ?_ | refine gI (by kernel_rfl) ?_ | refine gN rfl ?_ | refine gN (by omega) ?_ | refine gJ rfl ?_ | refine gK (by omega) ?_ | refine gL (by omega) ?_ | refine gK rfl ?_ | refine gO ?_ | refine gM ?_); conv => whnf))); first | (exact ret0 rfl (congrArg V.bool (by simp [overB]; omega)) rfl) | ((refine boolRes_split (fun hb => ?_) (fun hb => ?_) <;> conv => whnf) <;> ((repeat (first | refine gA ?_ | refine gB ?_ | refine gC rfl ?_ | refine gD rfl ?_ | ((first | refine gE env hN (by kernel_rfl) ?_ | refine gF ?_ | refine gG ?_ | refine gH fun hlen => ?_ | refine gI (by kernel_rfl) ?_ | refine gN rfl ?_ | refine gN (by omega) ?_ | refine gJ rfl ?_ | refine gK (by omega) ?_ | refine gL (by omega) ?_ | refine gK rfl ?_ | refine gO ?_ | refine gM ?_); conv => whnf))); first | (exact ret0 rfl (congrArg V.bool (by simp [overB]; omega)) rfl) | ((refine boolRes_split (fun hb => ?_) (fun hb => ?_) <;> conv => whnf) <;> ((repeat (first | refine gA ?_ | refine gB ?_ | refine gC rfl ?_ | refine gD rfl ?_ | ((first | refine gE env hN (by kernel_rfl) ?_ | refine gF ?_ | refine gG ?_ | refine gH fun hlen => ?_ | refine gI (by kernel_rfl) ?_ | refine gN rfl ?_ | refine gN (by omega) ?_ | refine gJ rfl ?_ | refine gK (by omega) ?_ | refine gL (by omega) ?_ | refine gK rfl ?_ | refine gO ?_ | refine gM ?_); conv => whnf))); first | (exact ret0 rfl (congrArg V.bool (by simp [overB]; omega)) rfl) | ((refine boolRes_split (fun hb => ?_) (fun hb => ?_) <;> conv => whnf) <;> ((repeat (first | refine gA ?_ | refine gB ?_ | refine gC rfl ?_ | refine gD rfl ?_ | ((first | refine gE env hN (by kernel_rfl) ?_ | refine gF ?_ | refine gG ?_ | refine gH fun hlen => ?_ | refine gI (by kernel_rfl) ?_ | refine gN rfl ?_ | refine gN (by omega) ?_ | refine gJ rfl ?_ | refine gK (by omega) ?_ | refine gL (by omega) ?_ | refine gK rfl ?_ | refine gO ?_ | refine gM ?_); conv => whnf))); first | (exact ret0 rfl (congrArg V.bool (by simp [overB]; omega)) rfl) | ((refine boolRes_split (fun hb => ?_) (fun hb => ?_) <;> conv => whnf) <;> ((repeat (first | refine gA ?_ | refine gB ?_ | refine gC rfl ?_ | refine gD rfl ?_ | ((first | refine gE env hN (by kernel_rfl) ?_ | refine gF ?_ | refine gG ?_ | refine gH fun hlen => ?_ | refine gI (by kernel_rfl) ?_ | refine gN rfl ?_ | refine gN (by omega) ?_ | refine gJ rfl ?_ | refine gK (by omega) ?_ | refine gL (by omega) ?_ | refine gK rfl ?_ | refine gO ?_ | refine gM ?_); conv => whnf))); first | (exact ret0 rfl (congrArg V.bool (by simp [overB]; omega)) rfl) | ((refine boolRes_split (fun hb => ?_) (fun hb => ?_) <;> conv => whnf) <;> ((repeat (first | refine gA ?_ | refine gB ?_ | refine gC rfl ?_ | refine gD rfl ?_ | ((first | refine gE env hN (by kernel_rfl) ?_ | refine gF ?_ | refine gG ?_ | refine gH fun hlen => ?_ | refine gI (by kernel_rfl) ?_ | refine gN rfl ?_ | refine gN (by omega) ?_ | refine gJ rfl ?_ | refine gK (by omega) ?_ | refine gL (by omega) ?_ | refine gK rfl ?_ | refine gO ?_ | refine gM ?_); conv => whnf))); first | (exact ret0 rfl (congrArg V.bool (by simp [overB]; omega)) rfl) | ((refine boolRes_split (fun hb => ?_) (fun hb => ?_) <;> conv => whnf) <;> ((repeat (first | refine gA ?_ | refine gB ?_ | refine gC rfl ?_ | refine gD rfl ?_ | ((first | refine gE env hN (by kernel_rfl) ?_ | refine gF ?_ | refine gG ?_ | refine gH fun hlen => ?_ | refine gI (by kernel_rfl) ?_ | refine gN rfl ?_ | refine gN (by omega) ?_ | refine gJ rfl ?_ | refine gK (by omega) ?_ | refine gL (by omega) ?_ | refine gK rfl ?_ | refine gO ?_ | refine gM ?_); conv => whnf))); first | (exact ret0 rfl (congrArg V.bool (by simp [overB]; omega)) rfl) | ((refine boolRes_split (fun hb => ?_) (fun hb => ?_) <;> conv => whnf) <;> ((repeat (first | refine gA ?_ | refine gB ?_ | refine gC rfl ?_ | refine gD rfl ?_ | ((first | refine gE env hN (by kernel_rfl) ?_ | refine gF ?_ | refine gG ?_ | refine gH fun hlen => ?_ | refine gI (by kernel_rfl) ?_ | refine gN rfl ?_ | refine gN (by omega) ?_ | refine gJ rfl ?_ | refine gK (by omega) ?_ | refine gL (by omega) ?_ | refine gK rfl ?_ | refine gO ?_ | refine gM ?_); conv => whnf))); first | (exact ret0 rfl (congrArg V.bool (by simp [overB]; omega)) rfl) | ((refine boolRes_split (fun hb => ?_) (fun hb => ?_) <;> conv => whnf) <;> fail))))))))))))))))))))))))
set_option maxHeartbeats 4000000 in
theorem proper_spec (c : Coll) (x : Item) : Spec Tryd.prog 72 [.agg c.row, .agg x.row] [] (.bool (properB c.version x)) [] := by
  have sp := valid_spec x.tab
  refine Spec.body env Tryd.func72 rfl (by kernel_rfl) (Nat.le_of_ble_eq_true (by kernel_rfl)) (keysSub rfl) fun Γ hN hK => ?_; have hML : maxLen = 9223372036854775807 := by unfold maxLen; rfl
  cases h1 : validB x.tab with
  | false =>
    rw [h1] at sp
    repeat (first | refine gA ?_ | refine gB ?_ | refine gC rfl ?_ | refine gD rfl ?_ | ((first | refine gE env hN (by kernel_rfl) ?_ | refine gF ?_ | refine gG ?_ | refine gH fun hlen => ?_ | refine gI (by kernel_rfl) ?_ | refine gN rfl ?_ | refine gN (by omega) ?_ | refine gJ rfl ?_ | refine gK (by omega) ?_ | refine gL (by omega) ?_ | refine gK rfl ?_ | refine gO ?_); conv => whnf))
    (refine ⟨_, _, _, callG [] [] [] rfl rfl rfl (by kernel_rfl) (sp) (by repeat' (first | exact trivial | exact Lent.refl _ | exact Lent.norm _ | apply And.intro)) rfl ⟨rfl, rfl, rfl, rfl, rfl, trivial, rfl, rfl⟩, ?_⟩; conv => whnf)
    repeat (first | refine gA ?_ | refine gB ?_ | refine gC rfl ?_ | refine gD rfl ?_ | ((first | refine gE env hN (by kernel_rfl) ?_ | refine gF ?_ | refine gG ?_ | refine gH fun hlen => ?_ | refine gI (by kernel_rfl) ?_ | refine gN rfl ?_ | refine gN (by omega) ?_ | refine gJ rfl ?_ | refine gK (by omega) ?_ | refine gL (by omega) ?_ | refine gK rfl ?_ | refine gO ?_ | refine gM ?_); conv => whnf))
    exact ret0 rfl (congrArg V.bool (by simp [properB, h1])) rfl
  | true =>
    rw [h1] at sp
    repeat (first | refine gA ?_ | refine gB ?_ | refine gC rfl ?_ | refine gD rfl ?_ | ((first | refine gE env hN (by kernel_rfl) ?_ | refine gF ?_ | refine gG ?_ | refine gH fun hlen => ?_ | refine gI (by kernel_rfl) ?_ | refine gN rfl ?_ | refine gN (by omega) ?_ | refine gJ rfl ?_ | refine gK (by omega) ?_ | refine gL (by omega) ?_ | refine gK rfl ?_ | refine gO ?_); conv => whnf))
    (refine ⟨_, _, _, callG [] [] [] rfl rfl rfl (by kernel_rfl) (sp) (by repeat' (first | exact trivial | exact Lent.refl _ | exact Lent.norm _ | apply And.intro)) rfl ⟨rfl, rfl, rfl, rfl, rfl, trivial, rfl, rfl⟩, ?_⟩; conv => whnf)
    ((repeat (first | refine gA ?_ | refine gB ?_ | refine gC rfl ?_ | refine gD rfl ?_ | ((first | refine gE env hN (by kernel_rfl) ?_ | refine gF ?_ | refine gG ?_ | refine gH fun hlen => ?_ | refine gI (by kernel_rfl) ?_ | refine gN rfl ?_ | refine gN (by omega) ?_ | refine gJ rfl ?_ | refine gK (by omega) ?_ | refine gL (by omega) ?_ | refine gK rfl ?_ | refine gO ?_ | refine gM ?_); conv => whnf))); first | (exact ret0 rfl (congrArg V.bool (by simp [properB, restB, h1]; omega)) rfl) | ((refine boolRes_split (fun hb => ?_) (fun hb => ?_) <;> conv => whnf) <;> ((repeat (first | refine gA ?_ | refine gB ?_ | refine gC rfl ?_ | refine gD rfl ?_ | ((first | refine gE env hN (by kernel_rfl) ?_ | refine gF ?_ | refine gG ?_ | refine gH fun hlen => ?_ | refine gI (by kernel_rfl) ?_ | refine gN rfl ?_ | refine gN (by omega) ?_ | refine gJ rfl ?_ | refine gK (by omega) ?_ | refine gL (by omega) ?_ | refine gK rfl ?_ | refine gO ?_ | refine gM ?_); conv => whnf))); first | (exact ret0 rfl (congrArg V.bool (by simp [properB, restB, h1]; omega)) rfl) | ((refine boolRes_split (fun hb => ?_) (fun hb => ?_) <;> conv => whnf) <;> ((repeat (first | refine gA ?_ | refine gB ?_ | refine gC rfl ?_ | refine gD rfl ?_ | ((first | refine gE env hN (by kernel_rfl) ?_ | refine gF ?_ | refine gG ?_ | refine gH fun hlen => ?_ | refine gI (by kernel_rfl) ?_ | refine gN rfl ?_ | refine gN (by omega) ?_ | refine gJ rfl ?_ | refine gK (by omega) ?_ | refine gL (by omega) ?_ | refine gK rfl ?_ | refine gO ?_ | refine gM ?_); conv => whnf))); first | (exact ret0 rfl (congrArg V.bool (by simp [properB, restB, h1]; omega)) rfl) | ((refine boolRes_split (fun hb => ?_) (fun hb => ?_) <;> conv => whnf) <;> ((repeat (first | refine gA ?_ | refine gB ?_ | refine gC rfl ?_ | refine gD rfl ?_ | ((first | refine gE env hN (by kernel_rfl) ?_ | refine gF ?_ | refine gG ?_ | refine gH fun hlen => ?_ | refine gI (by kernel_rfl) ?_ | refine gN rfl ?_ | refine gN (by omega) ?_ | refine gJ rfl ?_ | refine gK (by omega) ?_ | refine gL (by omega) ?_ | refine gK rfl ?_ | refine gO ?_ | refine gM ?_); conv => whnf))); first | (exact ret0 rfl (congrArg V.bool (by simp [properB, restB, h1]; omega)) rfl) | ((refine boolRes_split (fun hb => ?_) (fun hb => ?_) <;> conv => whnf) <;> ((repeat (first | refine gA ?_ | refine gB ?_ | refine gC rfl ?_ | refine gD rfl ?_ | ((first | refine gE env hN (by kernel_rfl) ?_ | refine gF ?_ | refine gG ?_ | refine gH fun hlen => ?_ | refine gI (by kernel_rfl) ?_ | refine gN rfl ?_ | refine gN (by omega) ?_ | refine gJ rfl ?_ | refine gK (by omega) ?_ | refine gL (by omega) ?_ | refine gK rfl ?_ | refine gO ?_ | refine gM ?_); conv => whnf))); first | (exact ret0 rfl (congrArg V.bool (by simp [properB, restB, h1]; omega)) rfl) | ((refine boolRes_split (fun hb => ?_) (fun hb => ?_) <;> conv => whnf) <;> ((repeat (first | refine gA ?_ | refine gB ?_ | refine gC rfl ?_ | refine gD rfl ?_ | ((first | refine gE env hN (by kernel_rfl) ?_ | refine gF ?_ | refine gG ?_ | refine gH fun hlen => ?_ | refine gI (by kernel_rfl) ?_ | refine gN rfl ?_ | refine gN (by omega) ?_ | refine gJ rfl ?_ | refine gK (by omega) ?_ | refine gL (by omega) ?_ | refine gK rfl ?_ | refine gO ?_ | refine gM ?_); conv => whnf))); first | (exact ret0 rfl (congrArg V.bool (by simp [properB, restB, h1]; omega)) rfl) | ((refine boolRes_split (fun hb => ?_) (fun hb => ?_) <;> conv => whnf) <;> ((repeat (first | refine gA ?_ | refine gB ?_ | refine gC rfl ?_ | refine gD rfl ?_ | ((first | refine gE env hN (by kernel_rfl) ?_ | refine gF ?_ | refine gG ?_ | refine gH fun hlen => ?_ | refine gI (by kernel_rfl) ?_ | refine gN rfl ?_ | refine gN (by omega) ?_ | refine gJ rfl ?_ | refine gK (by omega) ?_ | refine gL (by omega) ?_ | refine gK rfl ?_ | refine gO ?_ | refine gM ?_); conv => whnf))); first | (exact ret0 rfl (congrArg V.bool (by simp [properB, restB, h1]; omega)) rfl) | ((refine boolRes_split (fun hb => ?_) (fun hb => ?_) <;> conv => whnf) <;> ((repeat (first | refine gA ?_ | refine gB ?_ | refine gC rfl ?_ | refine gD rfl ?_ | ((first | refine gE env hN (by kernel_rfl) ?_ | refine gF ?_ | refine gG ?_ | refine gH fun hlen => ?_ | refine gI (by kernel_rfl) ?_ | refine gN rfl ?_ | refine gN (by omega) ?_ | refine gJ rfl ?_ | refine gK (by omega) ?_ | refine gL (by omega) ?_ | refine gK rfl ?_ | refine gO ?_ | refine gM ?_); conv => whnf))); first | (exact ret0 rfl (congrArg V.bool (by simp [properB, restB, h1]; omega)) rfl) | ((refine boolRes_split (fun hb => ?_) (fun hb => ?_) <;> conv => whnf) <;> ((repeat (first | refine gA ?_ | refine gB ?_ | refine gC rfl ?_ | refine gD rfl ?_ | ((first | refine gE env hN (by kernel_rfl) ?_ | refine gF ?_ | refine gG ?_ | refine gH fun hlen => ?_ | refine gI (by kernel_rfl) ?_ | refine gN rfl ?_ | refine gN (by omega) ?_ | refine gJ rfl ?_ | refine gK (by omega) ?_ | refine gL (by omega) ?_ | refine gK rfl ?_ | refine gO ?_ | refine gM ?_); conv => whnf))); first | (exact ret0 rfl (congrArg V.bool (by simp [properB, restB, h1]; omega)) rfl) | ((refine boolRes_split (fun hb => ?_) (fun hb => ?_) <;> conv => whnf) <;> ((repeat (first | refine gA ?_ | refine gB ?_ | refine gC rfl ?_ | refine gD rfl ?_ | ((first | refine gE env hN (by kernel_rfl) ?_ | refine gF ?_ | refine gG ?_ | refine gH fun hlen => ?_ | refine gI (by kernel_rfl) ?_ | refine gN rfl ?_ | refine gN (by omega) ?_ | refine gJ rfl ?_ | refine gK (by omega) ?_ | refine gL (by omega) ?_ | refine gK rfl ?_ | refine gO ?_ | refine gM ?_); conv => whnf))); first | (exact ret0 rfl (congrArg V.bool (by simp [properB, restB, h1]; omega)) rfl) | ((refine boolRes_split (fun hb => ?_) (fun hb => ?_) <;> conv => whnf) <;> ((repeat (first | refine gA ?_ | refine gB ?_ | refine gC rfl ?_ | refine gD rfl ?_ | ((first | refine gE env hN (by kernel_rfl) ?_ | refine gF ?_ | refine gG ?_ | refine gH fun hlen => ?_ | refine gI (by kernel_rfl) ?_ | refine gN rfl ?_ | refine gN (by omega) ?_ | refine gJ rfl ?_ | refine gK (by omega) ?_ | refine gL (by omega) ?_ | refine gK rfl ?_ | refine gO ?_ | refine gM ?_); conv => whnf))); first | (exact ret0 rfl (congrArg V.bool (by simp [properB, restB, h1]; omega)) rfl) | ((refine boolRes_split (fun hb => ?_) (fun hb => ?_) <;> conv => whnf) <;> ((repeat (first | refine gA ?_ | refine gB ?_ | refine gC rfl ?_ | refine gD rfl ?_ | ((first | refine gE env hN (by kernel_rfl) ?_ | refine gF ?_ | refine gG ?_ | refine gH fun hlen => ?_ | refine gI (by kernel_rfl) ?_ | refine gN rfl ?_ | refine gN (by omega) ?_ | refine gJ rfl ?_ | refine gK (by omega) ?_ | refine gL (by omega) ?_ | refine gK rfl ?_ | refine gO ?_ | refine gM ?_); conv => whnf))); first | (exact ret0 rfl (congrArg V.bool (by simp [properB, restB, h1]; omega)) rfl) | ((refine boolRes_split (fun hb => ?_) (fun hb => ?_) <;> conv => whnf) <;> fail))))))))))))))))))))))))
set_option maxHeartbeats 2000000 in
theorem clash_spec (x y : Item) : Spec Tryd.prog 74 [.agg y.row, .ro x.row 0] [] (.bool (clashB x y)) [] := by
  have sp := overlap_spec x y
  refine Spec.body env Tryd.func74 rfl (by kernel_rfl) (Nat.le_of_ble_eq_true (by kernel_rfl)) (keysSub rfl) fun Γ hN hK => ?_; have hML : maxLen = 9223372036854775807 := by unfold maxLen; rfl
  repeat (first | refine gA ?_ | refine gB ?_ | refine gC rfl ?_ | refine gD rfl ?_ | ((first | refine gE env hN (by kernel_rfl) ?_ | refine gF ?_ | refine gG ?_ | refine gH fun hlen => ?_ | refine gI (by kernel_rfl) ?_ | refine gN rfl ?_ | refine gN (by omega) ?_ | refine gJ rfl ?_ | refine gK (by omega) ?_ | refine gL (by omega) ?_ | refine gK rfl ?_ | refine gO ?_); conv => whnf))
  refine boolRes_split (fun hb => ?_) (fun hb => ?_) <;> conv => whnf
  · repeat (first | refine gA ?_ | refine gB ?_ | refine gC rfl ?_ | refine gD rfl ?_ | ((first | refine gE env hN (by kernel_rfl) ?_ | refine gF ?_ | refine gG ?_ | refine gH fun hlen => ?_ | refine gI (by kernel_rfl) ?_ | refine gN rfl ?_ | refine gN (by omega) ?_ | refine gJ rfl ?_ | refine gK (by omega) ?_ | refine gL (by omega) ?_ | refine gK rfl ?_ | refine gO ?_); conv => whnf))
    cases h1 : overB x y <;> rw [h1] at sp
    · (refine ⟨_, _, _, callG [] [] [] rfl rfl rfl (by kernel_rfl) (sp) (by repeat' (first | exact trivial | exact Lent.refl _ | exact Lent.norm _ | apply And.intro)) rfl ⟨rfl, rfl, rfl, rfl, rfl, trivial, rfl, rfl⟩, ?_⟩; conv => whnf)
      repeat (first | refine gA ?_ | refine gB ?_ | refine gC rfl ?_ | refine gD rfl ?_ | ((first | refine gE env hN (by kernel_rfl) ?_ | refine gF ?_ | refine gG ?_ | refine gH fun hlen => ?_ | refine gI (by kernel_rfl) ?_ | refine gN rfl ?_ | refine gN (by omega) ?_ | refine gJ rfl ?_ | refine gK (by omega) ?_ | refine gL (by omega) ?_ | refine gK rfl ?_ | refine gO ?_ | refine gM ?_); conv => whnf))
      exact ret0 rfl (congrArg V.bool (by simp [clashB, h1, hb])) rfl
    · (refine ⟨_, _, _, callG [] [] [] rfl rfl rfl (by kernel_rfl) (sp) (by repeat' (first | exact trivial | exact Lent.refl _ | exact Lent.norm _ | apply And.intro)) rfl ⟨rfl, rfl, rfl, rfl, rfl, trivial, rfl, rfl⟩, ?_⟩; conv => whnf)
      repeat (first | refine gA ?_ | refine gB ?_ | refine gC rfl ?_ | refine gD rfl ?_ | ((first | refine gE env hN (by kernel_rfl) ?_ | refine gF ?_ | refine gG ?_ | refine gH fun hlen => ?_ | refine gI (by kernel_rfl) ?_ | refine gN rfl ?_ | refine gN (by omega) ?_ | refine gJ rfl ?_ | refine gK (by omega) ?_ | refine gL (by omega) ?_ | refine gK rfl ?_ | refine gO ?_ | refine gM ?_); conv => whnf))
      exact ret0 rfl (congrArg V.bool (by simp [clashB, h1, hb])) rfl
  · repeat (first | refine gA ?_ | refine gB ?_ | refine gC rfl ?_ | refine gD rfl ?_ | ((first | refine gE env hN (by kernel_rfl) ?_ | refine gF ?_ | refine gG ?_ | refine gH fun hlen => ?_ | refine gI (by kernel_rfl) ?_ | refine gN rfl ?_ | refine gN (by omega) ?_ | refine gJ rfl ?_ | refine gK (by omega) ?_ | refine gL (by omega) ?_ | refine gK rfl ?_ | refine gO ?_ | refine gM ?_); conv => whnf))
    exact ret0 rfl (congrArg V.bool (by simp [clashB, hb])) rfl
end Go.Sx.Sp
namespace Go.Sx.Sp
open Go Go.Sx Go.Proofs
attribute [local irreducible] GoodW
set_option maxHeartbeats 2000000 in
theorem indexItem_spec (y0 : Item) (l : List Item) : Spec Tryd.prog 104 [.sl (itemRows l) false, .fn 74 [.ro y0.row 0]] [] (.int .i64 (ixFrom (clashB y0) l 0)) [] := by
  have hrl : (itemRows l).length = l.length := by simp [itemRows]
  refine Spec.body env Tryd.func104 rfl (by kernel_rfl) (Nat.le_of_ble_eq_true (by kernel_rfl)) (keysSub rfl) fun Γ hN hK => ?_; have hML : maxLen = 9223372036854775807 := by unfold maxLen; rfl
  repeat (first | refine gA ?_ | refine gB ?_ | refine gC rfl ?_ | refine gD rfl ?_ | ((first | refine gE env hN (by kernel_rfl) ?_ | refine gF ?_ | refine gG ?_ | refine gH fun hlen => ?_ | refine gI (by kernel_rfl) ?_ | refine gN rfl ?_ | refine gN (by omega) ?_ | refine gJ rfl ?_ | refine gK (by omega) ?_ | refine gL (by omega) ?_ | refine gK rfl ?_ | refine gO ?_); conv => whnf))
  refine W.loopG (fun n st => ∃ k : Nat, k ≤ l.length ∧ ixFrom (clashB y0) l 0 = ixFrom (clashB y0) (l.drop k) k ∧ n = l.length - k ∧ st = ⟨[(0, .sl (itemRows l) false), (1, .fn 74 [.ro y0.row 0]), (7, .int .i64 (itemRows l).length), (8, .int .i64 k)], [], []⟩)
    l.length _ ⟨0, by omega, rfl, by omega, rfl⟩ ⟨[], [], [], LeG.mk' rfl rfl rfl (by repeat' (first | exact trivial | exact ⟨_, .refl _, rfl⟩ | apply And.intro)) .nil rfl rfl (by rw [hK]; rfl)⟩ ?_
  rintro n st ⟨k, hk, hix, rfl, rfl⟩
  repeat (first | refine gA ?_ | refine gB ?_ | refine gC rfl ?_ | refine gD rfl ?_ | ((first | refine gE env hN (by kernel_rfl) ?_ | refine gF ?_ | refine gG ?_ | refine gH fun hlen => ?_ | refine gI (by kernel_rfl) ?_ | refine gN rfl ?_ | refine gN (by omega) ?_ | refine gJ rfl ?_ | refine gK (by omega) ?_ | refine gL (by omega) ?_ | refine gK rfl ?_ | refine gO ?_); conv => whnf))
  refine boolRes_split (fun hb => ?_) (fun hb => ?_) <;> conv => whnf
  · have hlt : k < l.length := by omega
    have hx : (itemRows l)[k]? = some (l[k]).row := by simp [itemRows, hlt]
    have sp := clash_spec y0 l[k]
    rw [List.drop_eq_getElem_cons hlt] at hix
    generalize l[k] = x at *
    simp only [ixFrom] at hix
    repeat (first | refine gA ?_ | refine gB ?_ | refine gC rfl ?_ | refine gD rfl ?_ | ((first | refine gE env hN (by kernel_rfl) ?_ | refine gF ?_ | refine gG ?_ | refine gH fun hlen => ?_ | refine gI (by kernel_rfl) ?_ | refine gN rfl ?_ | refine gN (by omega) ?_ | refine gJ rfl ?_ | refine gK (by omega) ?_ | refine gL (by omega) ?_ | refine gK rfl ?_ | refine gO ?_); conv => whnf))
    refine rowAt_of hx ?_
    conv => whnf
    repeat (first | refine gA ?_ | refine gB ?_ | refine gC rfl ?_ | refine gD rfl ?_ | ((first | refine gE env hN (by kernel_rfl) ?_ | refine gF ?_ | refine gG ?_ | refine gH fun hlen => ?_ | refine gI (by kernel_rfl) ?_ | refine gN rfl ?_ | refine gN (by omega) ?_ | refine gJ rfl ?_ | refine gK (by omega) ?_ | refine gL (by omega) ?_ | refine gK rfl ?_ | refine gO ?_); conv => whnf))
    cases hb2 : (clashB y0) x with
    | true =>
      rw [hb2] at sp hix
      (refine ⟨_, _, _, callG [] [] [] rfl rfl rfl (by kernel_rfl) (sp) (by repeat' (first | exact trivial | exact Lent.refl _ | exact Lent.norm _ | apply And.intro)) rfl ⟨rfl, rfl, rfl, rfl, rfl, trivial, rfl, rfl⟩, ?_⟩; conv => whnf)
      repeat (first | refine gA ?_ | refine gB ?_ | refine gC rfl ?_ | refine gD rfl ?_ | ((first | refine gE env hN (by kernel_rfl) ?_ | refine gF ?_ | refine gG ?_ | refine gH fun hlen => ?_ | refine gI (by kernel_rfl) ?_ | refine gN rfl ?_ | refine gN (by omega) ?_ | refine gJ rfl ?_ | refine gK (by omega) ?_ | refine gL (by omega) ?_ | refine gK rfl ?_ | refine gO ?_ | refine gM ?_); conv => whnf))
      exact ret0 rfl (congrArg (V.int .i64) (by rw [hix]; rfl)) rfl
    | false =>
      rw [hb2] at sp hix
      (refine ⟨_, _, _, callG [] [] [] rfl rfl rfl (by kernel_rfl) (sp) (by repeat' (first | exact trivial | exact Lent.refl _ | exact Lent.norm _ | apply And.intro)) rfl ⟨rfl, rfl, rfl, rfl, rfl, trivial, rfl, rfl⟩, ?_⟩; conv => whnf)
      repeat (first | refine gA ?_ | refine gB ?_ | refine gC rfl ?_ | refine gD rfl ?_ | ((first | refine gE env hN (by kernel_rfl) ?_ | refine gF ?_ | refine gG ?_ | refine gH fun hlen => ?_ | refine gI (by kernel_rfl) ?_ | refine gN rfl ?_ | refine gN (by omega) ?_ | refine gJ rfl ?_ | refine gK (by omega) ?_ | refine gL (by omega) ?_ | refine gK rfl ?_ | refine gO ?_); conv => whnf))
      refine ⟨_, _, ?_, ⟨k + 1, by omega, ?_, rfl, rfl⟩, ⟨[], [], [], LeG.mk' rfl rfl rfl (by repeat' (first | exact trivial | exact ⟨_, .refl _, rfl⟩ | apply And.intro)) .nil rfl rfl (by rw [hK]; rfl)⟩⟩
      · omega
      · rw [hix]; rfl
  · have hke : k = l.length := by omega
    rw [hke, List.drop_length] at hix
    repeat (first | refine gA ?_ | refine gB ?_ | refine gC rfl ?_ | refine gD rfl ?_ | ((first | refine gE env hN (by kernel_rfl) ?_ | refine gF ?_ | refine gG ?_ | refine gH fun hlen => ?_ | refine gI (by kernel_rfl) ?_ | refine gN rfl ?_ | refine gN (by omega) ?_ | refine gJ rfl ?_ | refine gK (by omega) ?_ | refine gL (by omega) ?_ | refine gK rfl ?_ | refine gO ?_ | refine gM ?_); conv => whnf))
    exact ret0 rfl (congrArg (V.int .i64) (by rw [hix]; rfl)) rfl
set_option maxHeartbeats 2000000 in
theorem containsItem_spec (y0 : Item) (l : List Item) : Spec Tryd.prog 73 [.sl (itemRows l) false, .fn 74 [.ro y0.row 0]] [] (.bool (l.any (clashB y0))) [] := by
  have hn := ixFrom_nonneg (clashB y0) l 0
  refine Spec.body env Tryd.func73 rfl (by kernel_rfl) (Nat.le_of_ble_eq_true (by kernel_rfl)) (keysSub rfl) fun Γ hN hK => ?_; have hML : maxLen = 9223372036854775807 := by unfold maxLen; rfl
  repeat (first | refine gA ?_ | refine gB ?_ | refine gC rfl ?_ | refine gD rfl ?_ | ((first | refine gE env hN (by kernel_rfl) ?_ | refine gF ?_ | refine gG ?_ | refine gH fun hlen => ?_ | refine gI (by kernel_rfl) ?_ | refine gN rfl ?_ | refine gN (by omega) ?_ | refine gJ rfl ?_ | refine gK (by omega) ?_ | refine gL (by omega) ?_ | refine gK rfl ?_ | refine gO ?_); conv => whnf))
  (refine ⟨_, _, _, callG [] [] [] rfl rfl rfl (by kernel_rfl) (indexItem_spec y0 l) (by repeat' (first | exact trivial | exact Lent.refl _ | exact Lent.norm _ | apply And.intro)) rfl ⟨rfl, rfl, rfl, rfl, rfl, trivial, rfl, rfl⟩, ?_⟩; conv => whnf)
  repeat (first | refine gA ?_ | refine gB ?_ | refine gC rfl ?_ | refine gD rfl ?_ | ((first | refine gE env hN (by kernel_rfl) ?_ | refine gF ?_ | refine gG ?_ | refine gH fun hlen => ?_ | refine gI (by kernel_rfl) ?_ | refine gN rfl ?_ | refine gN (by omega) ?_ | refine gJ rfl ?_ | refine gK (by omega) ?_ | refine gL (by omega) ?_ | refine gK rfl ?_ | refine gO ?_); conv => whnf))
  refine boolRes_keep ?_
  conv => whnf
  repeat (first | refine gA ?_ | refine gB ?_ | refine gC rfl ?_ | refine gD rfl ?_ | ((first | refine gE env hN (by kernel_rfl) ?_ | refine gF ?_ | refine gG ?_ | refine gH fun hlen => ?_ | refine gI (by kernel_rfl) ?_ | refine gN rfl ?_ | refine gN (by omega) ?_ | refine gJ rfl ?_ | refine gK (by omega) ?_ | refine gL (by omega) ?_ | refine gK rfl ?_ | refine gO ?_ | refine gM ?_); conv => whnf))
  exact ret0 rfl (congrArg V.bool (by rw [Bool.eq_iff_iff]; simp only [decide_eq_true_eq]; exact hn)) rfl
def hasB (id : Int) (x : Item) : Bool := decide (x.tab.id = id ∧ x.until_ = 0)
set_option maxHeartbeats 2000000 in
theorem has_spec (id : Int) (x : Item) : Spec Tryd.prog 105 [.agg x.row, .ro [.int .i64 id] 0] [] (.bool (hasB id x)) [] := by
  refine Spec.body env Tryd.func105 rfl (by kernel_rfl) (Nat.le_of_ble_eq_true (by kernel_rfl)) (keysSub rfl) fun Γ hN hK => ?_; have hML : maxLen = 9223372036854775807 := by unfold maxLen; rfl
  ((repeat (first | refine gA ?_ | refine gB ?_ | refine gC rfl ?_ | refine gD rfl ?_ | ((first | refine gE env hN (by kernel_rfl) ?_ | refine gF ?_ | refine gG ?_ | refine gH fun hlen => ?_ | refine gI (by kernel_rfl) ?_ | refine gN rfl ?_ | refine gN (by omega) ?_ | refine gJ rfl ?_ | refine gK (by omega) ?_ | refine gL (by omega) ?_ | refine gK rfl ?_ | refine gO ?_ | refine gM ?_); conv => whnf))); first | (exact ret0 rfl (congrArg V.bool (by simp [hasB]; omega)) rfl) | ((refine boolRes_split (fun hb => ?_) (fun hb => ?_) <;> conv => whnf) <;> ((repeat (first | refine gA ?_ | refine gB ?_ | refine gC rfl ?_ | refine gD rfl ?_ | ((first | refine gE env hN (by kernel_rfl) ?_ | refine gF ?_ | refine gG ?_ | refine gH fun hlen => ?_ | refine gI (by kernel_rfl) ?_ | refine gN rfl ?_ | refine gN (by omega) ?_ | refine gJ rfl ?_ | refine gK (by omega) ?_ | refine gL (by omega) ?_ | refine gK rfl ?_ | refine gO ?_ | refine gM ?_); conv => whnf))); first | (exact ret0 rfl (congrArg V.bool (by simp [hasB]; omega)) rfl) | ((refine boolRes_split (fun hb => ?_) (fun hb => ?_) <;> conv => whnf) <;> ((repeat (first | refine gA ?_ | refine gB ?_ | refine gC rfl ?_ | refine gD rfl ?_ | ((first | refine gE env hN (by kernel_rfl) ?_ | refine gF ?_ | refine gG ?_ | refine gH fun hlen => ?_ | refine gI (by kernel_rfl) ?_ | refine gN rfl ?_ | refine gN (by omega) ?_ | refine gJ rfl ?_ | refine gK (by omega) ?_ | refine gL (by omega) ?_ | refine gK rfl ?_ | refine gO ?_ | refine gM ?_); conv => whnf))); first | (exact ret0 rfl (congrArg V.bool (by simp [hasB]; omega)) rfl) | ((refine boolRes_split (fun hb => ?_) (fun hb => ?_) <;> conv => whnf) <;> ((repeat (first | refine gA ?_ | refine gB ?_ | refine gC rfl ?_ | refine gD rfl ?_ | ((first | refine gE env hN (by kernel_rfl) ?_ | refine gF ?_ | refine gG ?_ | refine gH fun hlen => ?_ | refine gI (by kernel_rfl) ?_ | refine gN rfl ?_ | refine gN (by omega) ?_ | refine gJ rfl ?_ | refine gK (by omega) ?_ | refine gL (by omega) ?_ | refine gK rfl ?_ | refine gO ?_ | refine gM ?_); conv => whnf))); first | (exact ret0 rfl (congrArg V.bool (by simp [hasB]; omega)) rfl) | ((refine boolRes_split (fun hb => ?_) (fun hb => ?_) <;> conv => whnf) <;> ((repeat (first | refine gA ?_ | refine gB ?_ | refine gC rfl ?_ | refine gD rfl ?_ | ((first | refine gE env hN (by kernel_rfl) ?_ | refine gF ?_ | refine gG ?_ | refine gH fun hlen => ?_ | refine gI (by kernel_rfl) ?_ | refine gN rfl ?_ | refine gN (by omega) ?_ | refine gJ rfl ?_ | refine gK (by omega) ?_ | refine gL (by omega) ?_ | refine gK rfl ?_ | refine gO ?_ | refine gM ?_); conv => whnf))); first | (exact ret0 rfl (congrArg V.bool (by simp [hasB]; omega)) rfl) | ((refine boolRes_split (fun hb => ?_) (fun hb => ?_) <;> conv => whnf) <;> ((repeat (first | refine gA ?_ | refine gB ?_ | refine gC rfl ?_ | refine gD rfl ?_ | ((first | refine gE env hN (by kernel_rfl) ?_ | refine gF ?_ | refine gG ?_ | refine gH fun hlen => ?_ | refine gI (by kernel_rfl) ?_ | refine gN rfl ?_ | refine gN (by omega) ?_ | refine gJ rfl ?_ | refine gK (by omega) ?_ | refine gL (by omega) ?_ | refine gK rfl ?_ | refine gO ?_ | refine gM ?_); conv => whnf))); first | (exact ret0 rfl (congrArg V.bool (by simp [hasB]; omega)) rfl) | ((refine boolRes_split (fun hb => ?_) (fun hb => ?_) <;> conv => whnf) <;> ((repeat (first | refine gA ?_ | refine gB ?_ | refine gC rfl ?_ | refine gD rfl ?_ | ((first | refine gE env hN (by kernel_rfl) ?_ | refine gF ?_ | refine gG ?_ | refine gH fun hlen => ?_ | refine gI (by kernel_rfl) ?_ | refine gN rfl ?_ | refine gN (by omega) ?_ | refine gJ rfl ?_ | refine gK (by omega) ?_ | refine gL (by omega) ?_ | refine gK rfl ?_ | refine gO ?_ | refine gM ?_); conv => whnf))); first | (exact ret0 rfl (congrArg V.bool (by simp [hasB]; omega)) rfl) | ((refine boolRes_split (fun hb => ?_) (fun hb => ?_) <;> conv => whnf) <;> ((repeat (first | refine gA ?_ | refine gB ?_ | refine gC rfl ?_ | refine gD rfl ?_ | ((first | refine gE env hN (by kernel_rfl) ?_ | refine gF ?_ | refine gG ?_ | refine gH fun hlen => ?_ | refine gI (by kernel_rfl) ?_ | refine gN rfl ?_ | refine gN (by omega) ?_ | refine gJ rfl ?_ | refine gK (by omega) ?_ | refine gL (by omega) ?_ | refine gK rfl ?_ | refine gO ?_ | refine gM ?_); conv => whnf))); first | (exact ret0 rfl (congrArg V.bool (by simp [hasB]; omega)) rfl) | ((refine boolRes_split (fun hb => ?_) (fun hb => ?_) <;> conv => whnf) <;> ((repeat (first | refine gA ?_ | refine gB ?_ | refine gC rfl ?_ | refine gD rfl ?_ | ((first | refine gE env hN (by kernel_rfl) ?_ | refine gF ?_ | refine gG ?_ | refine gH fun hlen => ?_ | refine gI (by kernel_rfl) ?_ | refine gN rfl ?_ | refine gN (by omega) ?_ | refine gJ rfl ?_ | refine gK (by omega) ?_ | refine gL (by omega) ?_ | refine gK rfl ?_ | refine gO ?_ | refine gM ?_); conv => whnf))); first | (exact ret0 rfl (congrArg V.bool (by simp [hasB]; omega)) rfl) | ((refine boolRes_split (fun hb => ?_) (fun hb => ?_) <;> conv => whnf) <;> ((repeat (first | refine gA ?_ | refine gB ?_ | refine gC rfl ?_ | refine gD rfl ?_ | ((first | refine gE env hN (by kernel_rfl) ?_ | refine gF ?_ | refine gG ?_ | refine gH fun hlen => ?_ | refine gI (by kernel_rfl) ?_ | refine gN rfl ?_ | refine gN (by omega) ?_ | refine gJ rfl ?_ | refine gK (by omega) ?_ | refine gL (by omega) ?_ | refine gK rfl ?_ | refine gO ?_ | refine gM ?_); conv => whnf))); first | (exact ret0 rfl (congrArg V.bool (by simp [hasB]; omega)) rfl) | ((refine boolRes_split (fun hb => ?_) (fun hb => ?_) <;> conv => whnf) <;> ((repeat (first | refine gA ?_ | refine gB ?_ | refine gC rfl ?_ | refine gD rfl ?_ | ((first | refine gE env hN (by kernel_rfl) ?_ | refine gF ?_ | refine gG ?_ | refine gH fun hlen => ?_ | refine gI (by kernel_rfl) ?_ | refine gN rfl ?_ | refine gN (by omega) ?_ | refine gJ rfl ?_ | refine gK (by omega) ?_ | refine gL (by omega) ?_ | refine gK rfl ?_ | refine gO ?_ | refine gM ?_); conv => whnf))); first | (exact ret0 rfl (congrArg V.bool (by simp [hasB]; omega)) rfl) | ((refine boolRes_split (fun hb => ?_) (fun hb => ?_) <;> conv => whnf) <;> ((repeat (first | refine gA ?_ | refine gB ?_ | refine gC rfl ?_ | refine gD rfl ?_ | ((first | refine gE env hN (by kernel_rfl) ?_ | refine gF ?_ | refine gG ?_ | refine gH fun hlen => ?_ | refine gI (by kernel_rfl) ?_ | refine gN rfl ?_ | refine gN (by omega) ?_ | refine gJ rfl ?_ | refine gK (by omega) ?_ | refine gL (by omega) ?_ | refine gK rfl ?_ | refine gO ?_ | refine gM ?_); conv => whnf))); first | (exact ret0 rfl (congrArg V.bool (by simp [hasB]; omega)) rfl) | ((refine boolRes_split (fun hb => ?_) (fun hb => ?_) <;> conv => whnf) <;> fail))))))))))))))))))))))))
set_option maxHeartbeats 2000000 in
theorem indexHas_spec (id : Int) (l : List Item) : Spec Tryd.prog 104 [.sl (itemRows l) false, .fn 105 [.ro [.int .i64 id] 0]] [] (.int .i64 (ixFrom (hasB id) l 0)) [] := by
  have hrl : (itemRows l).length = l.length := by simp [itemRows]
  refine Spec.body env Tryd.func104 rfl (by kernel_rfl) (Nat.le_of_ble_eq_true (by kernel_rfl)) (keysSub rfl) fun Γ hN hK => ?_; have hML : maxLen = 9223372036854775807 := by unfold maxLen; rfl
  repeat (first | refine gA ?_ | refine gB ?_ | refine gC rfl ?_ | refine gD rfl ?_ | ((first | refine gE env hN (by kernel_rfl) ?_ | refine gF ?_ | refine gG ?_ | refine gH fun hlen => ?_ | refine gI (by kernel_rfl) ?_ | refine gN rfl ?_ | refine gN (by omega) ?_ | refine gJ rfl ?_ | refine gK (by omega) ?_ | refine gL (by omega) ?_ | refine gK rfl ?_ | refine gO ?_); conv => whnf))
  refine W.loopG (fun n st => ∃ k : Nat, k ≤ l.length ∧ ixFrom (hasB id) l 0 = ixFrom (hasB id) (l.drop k) k ∧ n = l.length - k ∧ st = ⟨[(0, .sl (itemRows l) false), (1, .fn 105 [.ro [.int .i64 id] 0]), (7, .int .i64 (itemRows l).length), (8, .int .i64 k)], [], []⟩)
    l.length _ ⟨0, by omega, rfl, by omega, rfl⟩ ⟨[], [], [], LeG.mk' rfl rfl rfl (by repeat' (first | exact trivial | exact ⟨_, .refl _, rfl⟩ | apply And.intro)) .nil rfl rfl (by rw [hK]; rfl)⟩ ?_
  rintro n st ⟨k, hk, hix, rfl, rfl⟩
  repeat (first | refine gA ?_ | refine gB ?_ | refine gC rfl ?_ | refine gD rfl ?_ | ((first | refine gE env hN (by kernel_rfl) ?_ | refine gF ?_ | refine gG ?_ | refine gH fun hlen => ?_ | refine gI (by kernel_rfl) ?_ | refine gN rfl ?_ | refine gN (by omega) ?_ | refine gJ rfl ?_ | refine gK (by omega) ?_ | refine gL (by omega) ?_ | refine gK rfl ?_ | refine gO ?_); conv => whnf))
  refine boolRes_split (fun hb => ?_) (fun hb => ?_) <;> conv => whnf
  · have hlt : k < l.length := by omega
    have hx : (itemRows l)[k]? = some (l[k]).row := by simp [itemRows, hlt]
    have sp := has_spec id l[k]
    rw [List.drop_eq_getElem_cons hlt] at hix
    generalize l[k] = x at *
    simp only [ixFrom] at hix
    repeat (first | refine gA ?_ | refine gB ?_ | refine gC rfl ?_ | refine gD rfl ?_ | ((first | refine gE env hN (by kernel_rfl) ?_ | refine gF ?_ | refine gG ?_ | refine gH fun hlen => ?_ | refine gI (by kernel_rfl) ?_ | refine gN rfl ?_ | refine gN (by omega) ?_ | refine gJ rfl ?_ | refine gK (by omega) ?_ | refine gL (by omega) ?_ | refine gK rfl ?_ | refine gO ?_); conv => whnf))
    refine rowAt_of hx ?_
    conv => whnf
    repeat (first | refine gA ?_ | refine gB ?_ | refine gC rfl ?_ | refine gD rfl ?_ | ((first | refine gE env hN (by kernel_rfl) ?_ | refine gF ?_ | refine gG ?_ | refine gH fun hlen => ?_ | refine gI (by kernel_rfl) ?_ | refine gN rfl ?_ | refine gN (by omega) ?_ | refine gJ rfl ?_ | refine gK (by omega) ?_ | refine gL (by omega) ?_ | refine gK rfl ?_ | refine gO ?_); conv => whnf))
    cases hb2 : (hasB id) x with
    | true =>
      rw [hb2] at sp hix
      (refine ⟨_, _, _, callG [] [] [] rfl rfl rfl (by kernel_rfl) (sp) (by repeat' (first | exact trivial | exact Lent.refl _ | exact Lent.norm _ | apply And.intro)) rfl ⟨rfl, rfl, rfl, rfl, rfl, trivial, rfl, rfl⟩, ?_⟩; conv => whnf)
      repeat (first | refine gA ?_ | refine gB ?_ | refine gC rfl ?_ | refine gD rfl ?_ | ((first | refine gE env hN (by kernel_rfl) ?_ | refine gF ?_ | refine gG ?_ | refine gH fun hlen => ?_ | refine gI (by kernel_rfl) ?_ | refine gN rfl ?_ | refine gN (by omega) ?_ | refine gJ rfl ?_ | refine gK (by omega) ?_ | refine gL (by omega) ?_ | refine gK rfl ?_ | refine gO ?_ | refine gM ?_); conv => whnf))
      exact ret0 rfl (congrArg (V.int .i64) (by rw [hix]; rfl)) rfl
    | false =>
      rw [hb2] at sp hix
      (refine ⟨_, _, _, callG [] [] [] rfl rfl rfl (by kernel_rfl) (sp) (by repeat' (first | exact trivial | exact Lent.refl _ | exact Lent.norm _ | apply And.intro)) rfl ⟨rfl, rfl, rfl, rfl, rfl, trivial, rfl, rfl⟩, ?_⟩; conv => whnf)
      repeat (first | refine gA ?_ | refine gB ?_ | refine gC rfl ?_ | refine gD rfl ?_ | ((first | refine gE env hN (by kernel_rfl) ?_ | refine gF ?_ | refine gG ?_ | refine gH fun hlen => ?_ | refine gI (by kernel_rfl) ?_ | refine gN rfl ?_ | refine gN (by omega) ?_ | refine gJ rfl ?_ | refine gK (by omega) ?_ | refine gL (by omega) ?_ | refine gK rfl ?_ | refine gO ?_); conv => whnf))
      refine ⟨_, _, ?_, ⟨k + 1, by omega, ?_, rfl, rfl⟩, ⟨[], [], [], LeG.mk' rfl rfl rfl (by repeat' (first | exact trivial | exact ⟨_, .refl _, rfl⟩ | apply And.intro)) .nil rfl rfl (by rw [hK]; rfl)⟩⟩
      · omega
      · rw [hix]; rfl
  · have hke : k = l.length := by omega
    rw [hke, List.drop_length] at hix
    repeat (first | refine gA ?_ | refine gB ?_ | refine gC rfl ?_ | refine gD rfl ?_ | ((first | refine gE env hN (by kernel_rfl) ?_ | refine gF ?_ | refine gG ?_ | refine gH fun hlen => ?_ | refine gI (by kernel_rfl) ?_ | refine gN rfl ?_ | refine gN (by omega) ?_ | refine gJ rfl ?_ | refine gK (by omega) ?_ | refine gL (by omega) ?_ | refine gK rfl ?_ | refine gO ?_ | refine gM ?_); conv => whnf))
    exact ret0 rfl (congrArg (V.int .i64) (by rw [hix]; rfl)) rfl
set_option maxHeartbeats 2000000 in
theorem present_spec (c : Coll) (id : Int) : Spec Tryd.prog 70 [.agg c.row, .int .i64 id] [] (.int .i64 (ixFrom (hasB id) c.items 0)) [] := by
  have sp := indexHas_spec id c.items
  refine Spec.body env Tryd.func70 rfl (by kernel_rfl) (Nat.le_of_ble_eq_true (by kernel_rfl)) (keysSub rfl) fun Γ hN hK => ?_; have hML : maxLen = 9223372036854775807 := by unfold maxLen; rfl
  refine gA ?_
  (refine gE env hN (by kernel_rfl) ?_; conv => whnf)
  refine W.leG (mp := [(2, 2)]) (bo := [3]) (st' := ⟨[(2, .bp 2 0), (3, .ro [.int .i64 id] 0)], [(2, [.rows 3 [c.row] none])], [2]⟩)
    (LeG.mk' rfl rfl rfl ⟨⟨_, .refl _, rfl⟩, ⟨_, .bp 3 0 1 [.int .i64 id] none rfl rfl (by simp) (.inr rfl), rfl⟩, trivial⟩ (.cons 2 rfl rfl (.refl _) rfl .nil) rfl rfl (by rw [hK]; rfl)) ?_
  repeat (first | refine gA ?_ | refine gB ?_ | refine gC rfl ?_ | refine gD rfl ?_ | ((first | refine gE env hN (by kernel_rfl) ?_ | refine gF ?_ | refine gG ?_ | refine gH fun hlen => ?_ | refine gI (by kernel_rfl) ?_ | refine gN rfl ?_ | refine gN (by omega) ?_ | refine gJ rfl ?_ | refine gK (by omega) ?_ | refine gL (by omega) ?_ | refine gK rfl ?_ | refine gO ?_); conv => whnf))
  (refine ⟨_, _, _, callG [] [] [] rfl rfl rfl (by kernel_rfl) (sp) (by repeat' (first | exact trivial | exact Lent.refl _ | exact Lent.norm _ | apply And.intro)) rfl ⟨rfl, rfl, rfl, rfl, rfl, trivial, rfl, rfl⟩, ?_⟩; conv => whnf)
  repeat (first | refine gA ?_ | refine gB ?_ | refine gC rfl ?_ | refine gD rfl ?_ | ((first | refine gE env hN (by kernel_rfl) ?_ | refine gF ?_ | refine gG ?_ | refine gH fun hlen => ?_ | refine gI (by kernel_rfl) ?_ | refine gN rfl ?_ | refine gN (by omega) ?_ | refine gJ rfl ?_ | refine gK (by omega) ?_ | refine gL (by omega) ?_ | refine gK rfl ?_ | refine gO ?_ | refine gM ?_); conv => whnf))
  exact ret0 rfl rfl rfl
def itemsOK (v : Int) : List Item → List Item → Bool
  | _, [] => true
  | d, x :: r => properB v x && !d.any (clashB x) && itemsOK v (d ++ [x]) r
def collB (c : Coll) : Bool := decide (0 ≤ c.oldest ∧ c.oldest ≤ c.version ∧ c.version ≤ 1073741824 ∧ c.items.length ≤ 1024) && itemsOK c.version [] c.items
set_option maxHeartbeats 4000000 in
theorem snapValid_spec (c : Coll) : Spec Tryd.prog 35 [.agg c.row] [] (.bool (collB c)) [] := by
  have hl := itemRows_len c.items
  refine Spec.body env Tryd.func35 rfl (by kernel_rfl) (Nat.le_of_ble_eq_true (by kernel_rfl)) (keysSub rfl) fun Γ hN hK => ?_; have hML : maxLen = 9223372036854775807 := by unfold maxLen; rfl
  repeat (first | refine gA ?_ | refine gB ?_ | refine gC rfl ?_ | refine gD rfl ?_ | ((first | refine gE env hN (by kernel_rfl) ?_ | refine gF ?_ | refine gG ?_ | refine gH fun hlen => ?_ | refine gI (by kernel_rfl) ?_ | refine gN rfl ?_ | refine gN (by omega) ?_ | refine gJ rfl ?_ | refine gK (by omega) ?_ | refine gL (by omega) ?_ | refine gK rfl ?_ | refine gO ?_); conv => whnf))
  refine boolRes_split (fun hb => ?_) (fun hb => ?_) <;> conv => whnf
  · repeat (first | refine gA ?_ | refine gB ?_ | refine gC rfl ?_ | refine gD rfl ?_ | ((first | refine gE env hN (by kernel_rfl) ?_ | refine gF ?_ | refine gG ?_ | refine gH fun hlen => ?_ | refine gI (by kernel_rfl) ?_ | refine gN rfl ?_ | refine gN (by omega) ?_ | refine gJ rfl ?_ | refine gK (by omega) ?_ | refine gL (by omega) ?_ | refine gK rfl ?_ | refine gO ?_ | refine gM ?_); conv => whnf))
    exact ret0 rfl (congrArg V.bool (by simp [collB]; omega)) rfl
  repeat (first | refine gA ?_ | refine gB ?_ | refine gC rfl ?_ | refine gD rfl ?_ | ((first | refine gE env hN (by kernel_rfl) ?_ | refine gF ?_ | refine gG ?_ | refine gH fun hlen => ?_ | refine gI (by kernel_rfl) ?_ | refine gN rfl ?_ | refine gN (by omega) ?_ | refine gJ rfl ?_ | refine gK (by omega) ?_ | refine gL (by omega) ?_ | refine gK rfl ?_ | refine gO ?_); conv => whnf))
  refine boolRes_split (fun hb => ?_) (fun hb => ?_) <;> conv => whnf
  · repeat (first | refine gA ?_ | refine gB ?_ | refine gC rfl ?_ | refine gD rfl ?_ | ((first | refine gE env hN (by kernel_rfl) ?_ | refine gF ?_ | refine gG ?_ | refine gH fun hlen => ?_ | refine gI (by kernel_rfl) ?_ | refine gN rfl ?_ | refine gN (by omega) ?_ | refine gJ rfl ?_ | refine gK (by omega) ?_ | refine gL (by omega) ?_ | refine gK rfl ?_ | refine gO ?_ | refine gM ?_); conv => whnf))
    exact ret0 rfl (congrArg V.bool (by simp [collB]; omega)) rfl
  repeat (first | refine gA ?_ | refine gB ?_ | refine gC rfl ?_ | refine gD rfl ?_ | ((first | refine gE env hN (by kernel_rfl) ?_ | refine gF ?_ | refine gG ?_ | refine gH fun hlen => ?_ | refine gI (by kernel_rfl) ?_ | refine gN rfl ?_ | refine gN (by omega) ?_ | refine gJ rfl ?_ | refine gK (by omega) ?_ | refine gL (by omega) ?_ | refine gK rfl ?_ | refine gO ?_); conv => whnf))
  refine boolRes_split (fun hb => ?_) (fun hb => ?_) <;> conv => whnf
  · repeat (first | refine gA ?_ | refine gB ?_ | refine gC rfl ?_ | refine gD rfl ?_ | ((first | refine gE env hN (by kernel_rfl) ?_ | refine gF ?_ | refine gG ?_ | refine gH fun hlen => ?_ | refine gI (by kernel_rfl) ?_ | refine gN rfl ?_ | refine gN (by omega) ?_ | refine gJ rfl ?_ | refine gK (by omega) ?_ | refine gL (by omega) ?_ | refine gK rfl ?_ | refine gO ?_ | refine gM ?_); conv => whnf))
    exact ret0 rfl (congrArg V.bool (by simp [collB]; omega)) rfl
  repeat (first | refine gA ?_ | refine gB ?_ | refine gC rfl ?_ | refine gD rfl ?_ | ((first | refine gE env hN (by kernel_rfl) ?_ | refine gF ?_ | refine gG ?_ | refine gH fun hlen => ?_ | refine gI (by kernel_rfl) ?_ | refine gN rfl ?_ | refine gN (by omega) ?_ | refine gJ rfl ?_ | refine gK (by omega) ?_ | refine gL (by omega) ?_ | refine gK rfl ?_ | refine gO ?_); conv => whnf))
  refine boolRes_split (fun hb => ?_) (fun hb => ?_) <;> conv => whnf
  · repeat (first | refine gA ?_ | refine gB ?_ | refine gC rfl ?_ | refine gD rfl ?_ | ((first | refine gE env hN (by kernel_rfl) ?_ | refine gF ?_ | refine gG ?_ | refine gH fun hlen => ?_ | refine gI (by kernel_rfl) ?_ | refine gN rfl ?_ | refine gN (by omega) ?_ | refine gJ rfl ?_ | refine gK (by omega) ?_ | refine gL (by omega) ?_ | refine gK rfl ?_ | refine gO ?_ | refine gM ?_); conv => whnf))
    exact ret0 rfl (congrArg V.bool (by simp [collB]; omega)) rfl
  have e1 : 0 ≤ c.oldest ∧ c.oldest ≤ c.version ∧ c.version ≤ 1073741824 ∧ c.items.length ≤ 1024 := by omega
  have hv : collB c = itemsOK c.version [] c.items := by simp [collB, e1]
  rw [hv]
  repeat (first | refine gA ?_ | refine gB ?_ | refine gC rfl ?_ | refine gD rfl ?_ | ((first | refine gE env hN (by kernel_rfl) ?_ | refine gF ?_ | refine gG ?_ | refine gH fun hlen => ?_ | refine gI (by kernel_rfl) ?_ | refine gN rfl ?_ | refine gN (by omega) ?_ | refine gJ rfl ?_ | refine gK (by omega) ?_ | refine gL (by omega) ?_ | refine gK rfl ?_ | refine gO ?_); conv => whnf))
  refine W.loopG (fun n st => ∃ k, k ≤ c.items.length ∧ itemsOK c.version [] c.items = itemsOK c.version (c.items.take k) (c.items.drop k) ∧ n = c.items.length - k ∧ st = ⟨[(1, .bp 1 0), (27, .sl (itemRows c.items) false), (28, .int .i64 (itemRows c.items).length), (29, .int .i64 k)], [(1, [.rows 3 [c.row] none])], [1]⟩)
    c.items.length _ ⟨0, Nat.zero_le _, by simp, rfl, rfl⟩ ⟨[(1, 1)], [], [], LeG.mk' rfl rfl rfl (by repeat' (first | exact trivial | exact ⟨_, .refl _, rfl⟩ | apply And.intro)) (.cons 1 rfl rfl (.refl _) rfl .nil) rfl rfl (by rw [hK]; rfl)⟩ ?_
  rintro n st ⟨k, hk, hok, rfl, rfl⟩
  repeat (first | refine gA ?_ | refine gB ?_ | refine gC rfl ?_ | refine gD rfl ?_ | ((first | refine gE env hN (by kernel_rfl) ?_ | refine gF ?_ | refine gG ?_ | refine gH fun hlen => ?_ | refine gI (by kernel_rfl) ?_ | refine gN rfl ?_ | refine gN (by omega) ?_ | refine gJ rfl ?_ | refine gK (by omega) ?_ | refine gL (by omega) ?_ | refine gK rfl ?_ | refine gO ?_); conv => whnf))
  refine boolRes_split (fun hb => ?_) (fun hb => ?_) <;> conv => whnf
  · have hlt : k < c.items.length := by omega
    have hx := itemRows_get hlt
    rw [List.drop_eq_getElem_cons hlt] at hok
    have htk : c.items.take k ++ [c.items[k]] = c.items.take (k + 1) := (List.take_succ_eq_append_getElem hlt).symm
    simp only [itemsOK, htk] at hok
    have sp1 := proper_spec c c.items[k]
    have sp2 := containsItem_spec c.items[k] (c.items.take k)
    have e2 : itemRows (c.items.take k) = (itemRows c.items).take k := by simp [itemRows]
    rw [e2] at sp2
    generalize c.items[k] = x at *
    repeat (first | refine gA ?_ | refine gB ?_ | refine gC rfl ?_ | refine gD rfl ?_ | ((first | refine gE env hN (by kernel_rfl) ?_ | refine gF ?_ | refine gG ?_ | refine gH fun hlen => ?_ | refine gI (by kernel_rfl) ?_ | refine gN rfl ?_ | refine gN (by omega) ?_ | refine gJ rfl ?_ | refine gK (by omega) ?_ | refine gL (by omega) ?_ | refine gK rfl ?_ | refine gO ?_); conv => whnf))
    refine rowAt_of (by simpa using hx) ?_
    conv => whnf
    repeat ((first | refine gI (by kernel_rfl) ?_ | refine gH fun hlen => ?_ | refine gN rfl ?_ | refine gN (by omega) ?_ | refine gJ rfl ?_ | refine gK (by omega) ?_ | refine gL (by omega) ?_ | refine gK rfl ?_ | refine gO ?_); conv => whnf)
    refine gA ?_
    refine W.leG (mp := [(1, 1)]) (bo := [4]) (st' := ⟨[(1, .bp 1 0), (3, .int .i64 k), (4, .ro x.row 0), (27, .sl (itemRows c.items) false), (28, .int .i64 (itemRows c.items).length), (29, .int .i64 k)], [(1, [.rows 3 [c.row] none])], [1]⟩)
      (LeG.mk' rfl rfl rfl ⟨⟨_, .refl _, rfl⟩, ⟨_, .refl _, rfl⟩, ⟨_, .bp 4 0 5 x.row none rfl rfl (by simp) (.inr rfl), rfl⟩, ⟨_, .refl _, rfl⟩, ⟨_, .refl _, rfl⟩, ⟨_, .refl _, rfl⟩, trivial⟩ (.cons 1 rfl rfl (.refl _) rfl .nil) rfl rfl (by rw [hK]; rfl)) ?_
    repeat (first | refine gA ?_ | refine gB ?_ | refine gC rfl ?_ | refine gD rfl ?_ | ((first | refine gE env hN (by kernel_rfl) ?_ | refine gF ?_ | refine gG ?_ | refine gH fun hlen => ?_ | refine gI (by kernel_rfl) ?_ | refine gN rfl ?_ | refine gN (by omega) ?_ | refine gJ rfl ?_ | refine gK (by omega) ?_ | refine gL (by omega) ?_ | refine gK rfl ?_ | refine gO ?_); conv => whnf))
    cases h1 : properB c.version x with
    | false =>
      rw [h1] at sp1 hok
      (refine ⟨_, _, _, callG [] [] [] rfl rfl rfl (by kernel_rfl) (sp1) (by repeat' (first | exact trivial | exact Lent.refl _ | exact Lent.norm _ | apply And.intro)) rfl ⟨rfl, rfl, rfl, rfl, rfl, trivial, rfl, rfl⟩, ?_⟩; conv => whnf)
      repeat (first | refine gA ?_ | refine gB ?_ | refine gC rfl ?_ | refine gD rfl ?_ | ((first | refine gE env hN (by kernel_rfl) ?_ | refine gF ?_ | refine gG ?_ | refine gH fun hlen => ?_ | refine gI (by kernel_rfl) ?_ | refine gN rfl ?_ | refine gN (by omega) ?_ | refine gJ rfl ?_ | refine gK (by omega) ?_ | refine gL (by omega) ?_ | refine gK rfl ?_ | refine gO ?_ | refine gM ?_); conv => whnf))
      exact ret0 rfl (congrArg V.bool (by rw [hok]; rfl)) rfl
    | true =>
      rw [h1] at sp1 hok
      (refine ⟨_, _, _, callG [] [] [] rfl rfl rfl (by kernel_rfl) (sp1) (by repeat' (first | exact trivial | exact Lent.refl _ | exact Lent.norm _ | apply And.intro)) rfl ⟨rfl, rfl, rfl, rfl, rfl, trivial, rfl, rfl⟩, ?_⟩; conv => whnf)
      repeat (first | refine gA ?_ | refine gB ?_ | refine gC rfl ?_ | refine gD rfl ?_ | ((first | refine gE env hN (by kernel_rfl) ?_ | refine gF ?_ | refine gG ?_ | refine gH fun hlen => ?_ | refine gI (by kernel_rfl) ?_ | refine gN rfl ?_ | refine gN (by omega) ?_ | refine gJ rfl ?_ | refine gK (by omega) ?_ | refine gL (by omega) ?_ | refine gK rfl ?_ | refine gO ?_); conv => whnf))
      refine ⟨itemRows_sz _, ?_⟩
      conv => whnf
      repeat (first | refine gA ?_ | refine gB ?_ | refine gC rfl ?_ | refine gD rfl ?_ | ((first | refine gE env hN (by kernel_rfl) ?_ | refine gF ?_ | refine gG ?_ | refine gH fun hlen => ?_ | refine gI (by kernel_rfl) ?_ | refine gN rfl ?_ | refine gN (by omega) ?_ | refine gJ rfl ?_ | refine gK (by omega) ?_ | refine gL (by omega) ?_ | refine gK rfl ?_ | refine gO ?_); conv => whnf))
      cases h2 : (c.items.take k).any (clashB x) with
      | true =>
        rw [h2] at sp2 hok
        (refine ⟨_, _, _, callG [] [] [] rfl rfl rfl (by kernel_rfl) (sp2) (by repeat' (first | exact trivial | exact Lent.refl _ | exact Lent.norm _ | apply And.intro)) rfl ⟨rfl, rfl, rfl, rfl, rfl, trivial, rfl, rfl⟩, ?_⟩; conv => whnf)
        repeat (first | refine gA ?_ | refine gB ?_ | refine gC rfl ?_ | refine gD rfl ?_ | ((first | refine gE env hN (by kernel_rfl) ?_ | refine gF ?_ | refine gG ?_ | refine gH fun hlen => ?_ | refine gI (by kernel_rfl) ?_ | refine gN rfl ?_ | refine gN (by omega) ?_ | refine gJ rfl ?_ | refine gK (by omega) ?_ | refine gL (by omega) ?_ | refine gK rfl ?_ | refine gO ?_ | refine gM ?_); conv => whnf))
        exact ret0 rfl (congrArg V.bool (by rw [hok]; rfl)) rfl
      | false =>
        rw [h2] at sp2 hok
        (refine ⟨_, _, _, callG [] [] [] rfl rfl rfl (by kernel_rfl) (sp2) (by repeat' (first | exact trivial | exact Lent.refl _ | exact Lent.norm _ | apply And.intro)) rfl ⟨rfl, rfl, rfl, rfl, rfl, trivial, rfl, rfl⟩, ?_⟩; conv => whnf)
        repeat (first | refine gA ?_ | refine gB ?_ | refine gC rfl ?_ | refine gD rfl ?_ | ((first | refine gE env hN (by kernel_rfl) ?_ | refine gF ?_ | refine gG ?_ | refine gH fun hlen => ?_ | refine gI (by kernel_rfl) ?_ | refine gN rfl ?_ | refine gN (by omega) ?_ | refine gJ rfl ?_ | refine gK (by omega) ?_ | refine gL (by omega) ?_ | refine gK rfl ?_ | refine gO ?_); conv => whnf))
        refine ⟨_, _, ?_, ⟨k + 1, by omega, by rw [hok]; rfl, rfl, rfl⟩, ⟨[(1, 1)], [], [], LeG.mk' rfl rfl rfl (by repeat' (first | exact trivial | exact ⟨_, .refl _, rfl⟩ | apply And.intro)) (.cons 1 rfl rfl (.refl _) rfl .nil) rfl rfl (by rw [hK]; rfl)⟩⟩
        omega
  · have hke : k = c.items.length := by omega
    rw [hke, List.drop_length] at hok
    repeat (first | refine gA ?_ | refine gB ?_ | refine gC rfl ?_ | refine gD rfl ?_ | ((first | refine gE env hN (by kernel_rfl) ?_ | refine gF ?_ | refine gG ?_ | refine gH fun hlen => ?_ | refine gI (by kernel_rfl) ?_ | refine gN rfl ?_ | refine gN (by omega) ?_ | refine gJ rfl ?_ | refine gK (by omega) ?_ | refine gL (by omega) ?_ | refine gK rfl ?_ | refine gO ?_ | refine gM ?_); conv => whnf))
    exact ret0 rfl (congrArg V.bool (by rw [hok]; rfl)) rfl
end Go.Sx.Sp
namespace Go.Sx.Sp
open Go Go.Sx Go.Proofs
attribute [local irreducible] GoodW
theorem validB_few {t : Table} (h : validB t = true) : t.Few := by
  simp only [validB, headB, Bool.and_eq_true, decide_eq_true_eq, Bool.not_eq_true', List.any_eq_false] at h
  obtain ⟨⟨⟨⟨h1, h2⟩, h3⟩, h4⟩, h5⟩ := h
  refine ⟨by omega, fun c hc => ?_⟩
  have h6 := h5 c hc
  simp only [badCol, Bool.or_eq_true, decide_eq_true_eq, not_or, Decidable.not_not] at h6
  omega
theorem itemsOK_mem {v : Int} : ∀ {d l : List Item}, itemsOK v d l = true → ∀ x ∈ l, properB v x = true
  | _, [], _, x, hx => by cases hx
  | d, y :: r, h, x, hx => by
    simp only [itemsOK, Bool.and_eq_true] at h
    rcases List.mem_cons.1 hx with rfl | hx
    · exact h.1.1
    · exact itemsOK_mem h.2 x hx
theorem collB_few {c : Coll} (h : collB c = true) : c.Few := by
  simp only [collB, Bool.and_eq_true, decide_eq_true_eq] at h
  refine ⟨by omega, fun x hx => ?_⟩
  have h1 := itemsOK_mem h.2 x hx
  simp only [properB, Bool.and_eq_true] at h1
  exact validB_few h1.1
theorem ixFrom_cases {α : Type} (p : α → Bool) : ∀ (l : List α) (k : Nat), (ixFrom p l k = -1 ∧ l.any p = false) ∨ ∃ i, ∃ h : i < l.length, ixFrom p l k = ((k + i : Nat) : Int) ∧ p l[i] = true
  | [], k => .inl ⟨rfl, rfl⟩
  | x :: l, k => by
    simp only [ixFrom]
    by_cases h : p x = true
    · exact .inr ⟨0, by simp, by simp [h], by simpa using h⟩
    · rcases ixFrom_cases p l (k + 1) with ⟨h1, h2⟩ | ⟨i, hi, h1, h2⟩
      · refine .inl ⟨by simp [h, h1], by simp [h, h2]⟩
      · refine .inr ⟨i + 1, by simp; omega, ?_, by simpa using h2⟩
        rw [if_neg h, h1]
        congr 1
        omega
def closeAt (l : List Item) (i : Int) (v : Int) : List Item := if 0 ≤ i then l.modify i.toNat fun x => { x with until_ := v } else l
def putM (c : Coll) (t : Table) : Coll × Int :=
  if collB c = true ∧ validB t = true ∧ 1 ≤ t.id then
    if 1024 ≤ c.items.length ∨ 1073741824 ≤ c.version then (Coll.zero, 3)
    else (⟨c.version + 1, c.oldest, closeAt c.items (ixFrom (hasB t.id) c.items 0) (c.version + 1) ++ [⟨t, c.version + 1, 0⟩]⟩, 0)
  else (Coll.zero, 1)
theorem closeAt_len (l : List Item) (i v : Int) : (closeAt l i v).length = l.length := by
  unfold closeAt; split <;> simp
theorem itemRows_close {l : List Item} {i : Nat} (h : i < l.length) (v : Int) : (itemRows l).set i [.int .i64 l[i].tab.id, .str l[i].tab.name, .sl (colRows l[i].tab.cols) false, .int .i64 l[i].from_, .int .i64 v] = itemRows (closeAt l i v) := by
  unfold closeAt itemRows
  rw [if_pos (by omega)]
  apply List.ext_getElem (by simp)
  intro n h1 h2
  simp only [List.getElem_set, List.getElem_map, Int.toNat_natCast, List.getElem_modify]
  split
  · subst_vars; rfl
  · rfl
set_option maxHeartbeats 4000000 in
theorem put_spec (c : Coll) (t : Table) : Spec Tryd.prog 30 [.agg c.row, .agg t.row] [] (.tup [.agg (putM c t).1.row, .int .i64 (putM c t).2]) [] := by
  have sp1 := snapValid_spec c
  have sp2 := valid_spec t
  have sp3 := present_spec c t.id
  have hcl := itemRows_len c.items
  refine Spec.body env Tryd.func30 rfl (by kernel_rfl) (Nat.le_of_ble_eq_true (by kernel_rfl)) (keysSub rfl) fun Γ hN hK => ?_; have hML : maxLen = 9223372036854775807 := by unfold maxLen; rfl
  cases h1 : collB c with
  | false =>
    rw [h1] at sp1
    repeat (first | refine gA ?_ | refine gB ?_ | refine gC rfl ?_ | refine gD rfl ?_ | ((first | refine gE env hN (by kernel_rfl) ?_ | refine gF ?_ | refine gG ?_ | refine gH fun hlen => ?_ | refine gI (by kernel_rfl) ?_ | refine gN rfl ?_ | refine gN (by omega) ?_ | refine gJ rfl ?_ | refine gK (by omega) ?_ | refine gL (by omega) ?_ | refine gK rfl ?_ | refine gO ?_); conv => whnf))
    (refine ⟨_, _, _, callG [] [] [] rfl rfl rfl (by kernel_rfl) (sp1) (by repeat' (first | exact trivial | exact Lent.refl _ | exact Lent.norm _ | apply And.intro)) rfl ⟨rfl, rfl, rfl, rfl, rfl, trivial, rfl, rfl⟩, ?_⟩; conv => whnf)
    repeat (first | refine gA ?_ | refine gB ?_ | refine gC rfl ?_ | refine gD rfl ?_ | ((first | refine gE env hN (by kernel_rfl) ?_ | refine gF ?_ | refine gG ?_ | refine gH fun hlen => ?_ | refine gI (by kernel_rfl) ?_ | refine gN rfl ?_ | refine gN (by omega) ?_ | refine gJ rfl ?_ | refine gK (by omega) ?_ | refine gL (by omega) ?_ | refine gK rfl ?_ | refine gO ?_ | refine gM ?_); conv => whnf))
    exact ret0 rfl (by rw [show putM c t = (Coll.zero, 1) by simp [putM, h1]]; rfl) rfl
  | true =>
    rw [h1] at sp1
    repeat (first | refine gA ?_ | refine gB ?_ | refine gC rfl ?_ | refine gD rfl ?_ | ((first | refine gE env hN (by kernel_rfl) ?_ | refine gF ?_ | refine gG ?_ | refine gH fun hlen => ?_ | refine gI (by kernel_rfl) ?_ | refine gN rfl ?_ | refine gN (by omega) ?_ | refine gJ rfl ?_ | refine gK (by omega) ?_ | refine gL (by omega) ?_ | refine gK rfl ?_ | refine gO ?_); conv => whnf))
    (refine ⟨_, _, _, callG [] [] [] rfl rfl rfl (by kernel_rfl) (sp1) (by repeat' (first | exact trivial | exact Lent.refl _ | exact Lent.norm _ | apply And.intro)) rfl ⟨rfl, rfl, rfl, rfl, rfl, trivial, rfl, rfl⟩, ?_⟩; conv => whnf)
    repeat (first | refine gA ?_ | refine gB ?_ | refine gC rfl ?_ | refine gD rfl ?_ | ((first | refine gE env hN (by kernel_rfl) ?_ | refine gF ?_ | refine gG ?_ | refine gH fun hlen => ?_ | refine gI (by kernel_rfl) ?_ | refine gN rfl ?_ | refine gN (by omega) ?_ | refine gJ rfl ?_ | refine gK (by omega) ?_ | refine gL (by omega) ?_ | refine gK rfl ?_ | refine gO ?_); conv => whnf))
    cases h2 : validB t with
    | false =>
      rw [h2] at sp2
      (refine ⟨_, _, _, callG [] [] [] rfl rfl rfl (by kernel_rfl) (sp2) (by repeat' (first | exact trivial | exact Lent.refl _ | exact Lent.norm _ | apply And.intro)) rfl ⟨rfl, rfl, rfl, rfl, rfl, trivial, rfl, rfl⟩, ?_⟩; conv => whnf)
      repeat (first | refine gA ?_ | refine gB ?_ | refine gC rfl ?_ | refine gD rfl ?_ | ((first | refine gE env hN (by kernel_rfl) ?_ | refine gF ?_ | refine gG ?_ | refine gH fun hlen => ?_ | refine gI (by kernel_rfl) ?_ | refine gN rfl ?_ | refine gN (by omega) ?_ | refine gJ rfl ?_ | refine gK (by omega) ?_ | refine gL (by omega) ?_ | refine gK rfl ?_ | refine gO ?_ | refine gM ?_); conv => whnf))
      exact ret0 rfl (by rw [show putM c t = (Coll.zero, 1) by simp [putM, h2]]; rfl) rfl
    | true =>
      rw [h2] at sp2
      (refine ⟨_, _, _, callG [] [] [] rfl rfl rfl (by kernel_rfl) (sp2) (by repeat' (first | exact trivial | exact Lent.refl _ | exact Lent.norm _ | apply And.intro)) rfl ⟨rfl, rfl, rfl, rfl, rfl, trivial, rfl, rfl⟩, ?_⟩; conv => whnf)
      repeat (first | refine gA ?_ | refine gB ?_ | refine gC rfl ?_ | refine gD rfl ?_ | ((first | refine gE env hN (by kernel_rfl) ?_ | refine gF ?_ | refine gG ?_ | refine gH fun hlen => ?_ | refine gI (by kernel_rfl) ?_ | refine gN rfl ?_ | refine gN (by omega) ?_ | refine gJ rfl ?_ | refine gK (by omega) ?_ | refine gL (by omega) ?_ | refine gK rfl ?_ | refine gO ?_); conv => whnf))
      refine boolRes_split (fun hb => ?_) (fun hb => ?_) <;> conv => whnf
      · repeat (first | refine gA ?_ | refine gB ?_ | refine gC rfl ?_ | refine gD rfl ?_ | ((first | refine gE env hN (by kernel_rfl) ?_ | refine gF ?_ | refine gG ?_ | refine gH fun hlen => ?_ | refine gI (by kernel_rfl) ?_ | refine gN rfl ?_ | refine gN (by omega) ?_ | refine gJ rfl ?_ | refine gK (by omega) ?_ | refine gL (by omega) ?_ | refine gK rfl ?_ | refine gO ?_ | refine gM ?_); conv => whnf))
        exact ret0 rfl (by rw [show putM c t = (Coll.zero, 1) by simp [putM]; omega]; rfl) rfl
      have h3 : 1 ≤ t.id := by omega
      repeat (first | refine gA ?_ | refine gB ?_ | refine gC rfl ?_ | refine gD rfl ?_ | ((first | refine gE env hN (by kernel_rfl) ?_ | refine gF ?_ | refine gG ?_ | refine gH fun hlen => ?_ | refine gI (by kernel_rfl) ?_ | refine gN rfl ?_ | refine gN (by omega) ?_ | refine gJ rfl ?_ | refine gK (by omega) ?_ | refine gL (by omega) ?_ | refine gK rfl ?_ | refine gO ?_); conv => whnf))
      refine boolRes_split (fun hb => ?_) (fun hb => ?_) <;> conv => whnf
      · repeat (first | refine gA ?_ | refine gB ?_ | refine gC rfl ?_ | refine gD rfl ?_ | ((first | refine gE env hN (by kernel_rfl) ?_ | refine gF ?_ | refine gG ?_ | refine gH fun hlen => ?_ | refine gI (by kernel_rfl) ?_ | refine gN rfl ?_ | refine gN (by omega) ?_ | refine gJ rfl ?_ | refine gK (by omega) ?_ | refine gL (by omega) ?_ | refine gK rfl ?_ | refine gO ?_ | refine gM ?_); conv => whnf))
        exact ret0 rfl (by rw [show putM c t = (Coll.zero, 3) by simp [putM, h1, h2, h3]; omega]; rfl) rfl
      repeat (first | refine gA ?_ | refine gB ?_ | refine gC rfl ?_ | refine gD rfl ?_ | ((first | refine gE env hN (by kernel_rfl) ?_ | refine gF ?_ | refine gG ?_ | refine gH fun hlen => ?_ | refine gI (by kernel_rfl) ?_ | refine gN rfl ?_ | refine gN (by omega) ?_ | refine gJ rfl ?_ | refine gK (by omega) ?_ | refine gL (by omega) ?_ | refine gK rfl ?_ | refine gO ?_); conv => whnf))
      refine boolRes_split (fun hb => ?_) (fun hb => ?_) <;> conv => whnf
      · repeat (first | refine gA ?_ | refine gB ?_ | refine gC rfl ?_ | refine gD rfl ?_ | ((first | refine gE env hN (by kernel_rfl) ?_ | refine gF ?_ | refine gG ?_ | refine gH fun hlen => ?_ | refine gI (by kernel_rfl) ?_ | refine gN rfl ?_ | refine gN (by omega) ?_ | refine gJ rfl ?_ | refine gK (by omega) ?_ | refine gL (by omega) ?_ | refine gK rfl ?_ | refine gO ?_ | refine gM ?_); conv => whnf))
        exact ret0 rfl (by rw [show putM c t = (Coll.zero, 3) by simp [putM, h1, h2, h3]; omega]; rfl) rfl
      have hm : putM c t = (⟨c.version + 1, c.oldest, closeAt c.items (ixFrom (hasB t.id) c.items 0) (c.version + 1) ++ [⟨t, c.version + 1, 0⟩]⟩, 0) := by
        have h4 : ¬ (1024 ≤ c.items.length ∨ 1073741824 ≤ c.version) := by omega
        simp [putM, h1, h2, h3, h4]
      rw [hm]
      have hfew := collB_few h1
      have hv0 : 0 ≤ c.version := by
        simp only [collB, Bool.and_eq_true, decide_eq_true_eq] at h1
        omega
      have hfit : fitsV ((itemRows c.items).length + 1) 64 := fitN (by omega) (by omega)
      have sp4 := snapOwn_spec c hfew
      have sp5 := listsOwn_spec t (validB_few h2)
      repeat (first | refine gA ?_ | refine gB ?_ | refine gC rfl ?_ | refine gD rfl ?_ | ((first | refine gE env hN (by kernel_rfl) ?_ | refine gF ?_ | refine gG ?_ | refine gH fun hlen => ?_ | refine gI (by kernel_rfl) ?_ | refine gN rfl ?_ | refine gN (by omega) ?_ | refine gJ rfl ?_ | refine gK (by omega) ?_ | refine gL (by omega) ?_ | refine gK rfl ?_ | refine gO ?_); conv => whnf))
      (refine ⟨_, _, _, callG [] [(7, 11)] [] rfl rfl rfl (by kernel_rfl) (sp4) (by repeat' (first | exact trivial | exact Lent.refl _ | exact Lent.norm _ | apply And.intro)) rfl ⟨rfl, rfl, rfl, rfl, rfl, by repeat' (first | exact trivial | rfl | apply And.intro), rfl, rfl⟩, ?_⟩; conv => whnf)
      repeat (first | refine gA ?_ | refine gB ?_ | refine gC rfl ?_ | refine gD rfl ?_ | ((first | refine gE env hN (by kernel_rfl) ?_ | refine gF ?_ | refine gG ?_ | refine gH fun hlen => ?_ | refine gI (by kernel_rfl) ?_ | refine gN rfl ?_ | refine gN (by omega) ?_ | refine gJ rfl ?_ | refine gK (by omega) ?_ | refine gL (by omega) ?_ | refine gK rfl ?_ | refine gO ?_); conv => whnf))
      (refine ⟨_, _, _, callG [] [] [] rfl rfl rfl (by kernel_rfl) (sp3) (by repeat' (first | exact trivial | exact Lent.refl _ | exact Lent.norm _ | apply And.intro)) rfl ⟨rfl, rfl, rfl, rfl, rfl, trivial, rfl, rfl⟩, ?_⟩; conv => whnf)
      repeat (first | refine gA ?_ | refine gB ?_ | refine gC rfl ?_ | refine gD rfl ?_ | ((first | refine gE env hN (by kernel_rfl) ?_ | refine gF ?_ | refine gG ?_ | refine gH fun hlen => ?_ | refine gI (by kernel_rfl) ?_ | refine gN rfl ?_ | refine gN (by omega) ?_ | refine gJ rfl ?_ | refine gK (by omega) ?_ | refine gL (by omega) ?_ | refine gK rfl ?_ | refine gO ?_); conv => whnf))
      rcases ixFrom_cases (hasB t.id) c.items 0 with ⟨h5, h6⟩ | ⟨i, hi, h5, h6⟩
      · rw [h5] at *
        repeat (first | refine gA ?_ | refine gB ?_ | refine gC rfl ?_ | refine gD rfl ?_ | ((first | refine gE env hN (by kernel_rfl) ?_ | refine gF ?_ | refine gG ?_ | refine gH fun hlen => ?_ | refine gI (by kernel_rfl) ?_ | refine gN rfl ?_ | refine gN (by omega) ?_ | refine gJ rfl ?_ | refine gK (by omega) ?_ | refine gL (by omega) ?_ | refine gK rfl ?_ | refine gO ?_); conv => whnf))
        (refine ⟨_, _, _, callG [] [] [] rfl rfl rfl (by kernel_rfl) (sp5) (by repeat' (first | exact trivial | exact Lent.refl _ | exact Lent.norm _ | apply And.intro)) rfl ⟨rfl, rfl, rfl, rfl, rfl, trivial, rfl, rfl⟩, ?_⟩; conv => whnf)
        repeat (first | refine gA ?_ | refine gB ?_ | refine gC rfl ?_ | refine gD rfl ?_ | ((first | refine gE env hN (by kernel_rfl) ?_ | refine gF ?_ | refine gG ?_ | refine gH fun hlen => ?_ | refine gI (by kernel_rfl) ?_ | refine gN rfl ?_ | refine gN (by omega) ?_ | refine gJ rfl ?_ | refine gK (by omega) ?_ | refine gL (by omega) ?_ | refine gK rfl ?_ | refine gO ?_); conv => whnf))
        refine ⟨⟨rowsSz_cons rfl rowsSz_nil, rfl⟩, hfit, .inl ⟨rfl, rfl, ?_⟩⟩
        conv => whnf
        repeat (first | refine gA ?_ | refine gB ?_ | refine gC rfl ?_ | refine gD rfl ?_ | ((first | refine gE env hN (by kernel_rfl) ?_ | refine gF ?_ | refine gG ?_ | refine gH fun hlen => ?_ | refine gI (by kernel_rfl) ?_ | refine gN rfl ?_ | refine gN (by omega) ?_ | refine gJ rfl ?_ | refine gK (by omega) ?_ | refine gL (by omega) ?_ | refine gK rfl ?_ | refine gO ?_); conv => whnf))
        refine W.leG (mp := [(4, 4)]) (bo := [11]) (st' := ⟨[(4, .bp 4 0), (5, .int .i64 0)], [(4, [.rows 3 [[.int .i64 (c.version + 1), .int .i64 c.oldest, .sl (itemRows c.items ++ [(Item.mk t (c.version + 1) 0).row]) false]] none])], [4]⟩) (LeG.mk' rfl rfl rfl (by repeat' (first | exact trivial | exact ⟨_, .refl _, rfl⟩ | apply And.intro)) (.cons 4 (b1 := .rows 3 [[.int .i64 (c.version + 1), .int .i64 c.oldest, .sl (itemRows c.items ++ [(Item.mk t (c.version + 1) 0).row]) false]] none) rfl rfl (.rows _ _ _ (by repeat' (first | exact trivial | exact ⟨Lent.refl _, rfl⟩ | exact ⟨Lent.norm _, rfl⟩ | exact ⟨Lent.whole rfl rfl (by first | rfl | exact List.length_append.symm | exact hlenR | simp) rfl (by first | exact .inl rfl | exact .inr rfl), rfl⟩ | apply And.intro))) rfl .nil) rfl rfl (by rw [hK]; rfl)) ?_
        (refine gM ?_; conv => whnf)
        have hr : itemRows c.items ++ [(Item.mk t (c.version + 1) 0).row] = itemRows (closeAt c.items (-1) (c.version + 1) ++ [Item.mk t (c.version + 1) 0]) := by simp [closeAt, itemRows]
        exact ret0 rfl (congrArg (fun r => V.tup [.agg [.int .i64 (c.version + 1), .int .i64 c.oldest, .sl r false], .int .i64 0]) hr) rfl
      · rw [Nat.zero_add] at h5
        rw [h5] at *
        repeat (first | refine gA ?_ | refine gB ?_ | refine gC rfl ?_ | refine gD rfl ?_ | ((first | refine gE env hN (by kernel_rfl) ?_ | refine gF ?_ | refine gG ?_ | refine gH fun hlen => ?_ | refine gI (by kernel_rfl) ?_ | refine gN rfl ?_ | refine gN (by omega) ?_ | refine gJ rfl ?_ | refine gK (by omega) ?_ | refine gL (by omega) ?_ | refine gK rfl ?_ | refine gO ?_); conv => whnf))
        refine rowAt_of (by simpa using itemRows_get hi) ?_
        conv => whnf
        repeat (first | refine gA ?_ | refine gB ?_ | refine gC rfl ?_ | refine gD rfl ?_ | ((first | refine gE env hN (by kernel_rfl) ?_ | refine gF ?_ | refine gG ?_ | refine gH fun hlen => ?_ | refine gI (by kernel_rfl) ?_ | refine gN rfl ?_ | refine gN (by omega) ?_ | refine gJ rfl ?_ | refine gK (by omega) ?_ | refine gL (by omega) ?_ | refine gK rfl ?_ | refine gO ?_); conv => whnf))
        (refine ⟨_, _, _, callG [] [] [] rfl rfl rfl (by kernel_rfl) (sp5) (by repeat' (first | exact trivial | exact Lent.refl _ | exact Lent.norm _ | apply And.intro)) rfl ⟨rfl, rfl, rfl, rfl, rfl, trivial, rfl, rfl⟩, ?_⟩; conv => whnf)
        repeat (first | refine gA ?_ | refine gB ?_ | refine gC rfl ?_ | refine gD rfl ?_ | ((first | refine gE env hN (by kernel_rfl) ?_ | refine gF ?_ | refine gG ?_ | refine gH fun hlen => ?_ | refine gI (by kernel_rfl) ?_ | refine gN rfl ?_ | refine gN (by omega) ?_ | refine gJ rfl ?_ | refine gK (by omega) ?_ | refine gL (by omega) ?_ | refine gK rfl ?_ | refine gO ?_); conv => whnf))
        refine ⟨⟨rowsSz_cons rfl rowsSz_nil, (List.length_set).symm⟩, hfit, .inl ⟨rfl, rfl, ?_⟩⟩
        conv => whnf
        repeat (first | refine gA ?_ | refine gB ?_ | refine gC rfl ?_ | refine gD rfl ?_ | ((first | refine gE env hN (by kernel_rfl) ?_ | refine gF ?_ | refine gG ?_ | refine gH fun hlen => ?_ | refine gI (by kernel_rfl) ?_ | refine gN rfl ?_ | refine gN (by omega) ?_ | refine gJ rfl ?_ | refine gK (by omega) ?_ | refine gL (by omega) ?_ | refine gK rfl ?_ | refine gO ?_); conv => whnf))
        have hr : (itemRows c.items).set (0 + (i : Int).toNat) [.int .i64 c.items[i].tab.id, .str c.items[i].tab.name, .sl (colRows c.items[i].tab.cols) false, .int .i64 c.items[i].from_, .int .i64 (c.version + 1)] ++ [(Item.mk t (c.version + 1) 0).row] = itemRows (closeAt c.items i (c.version + 1) ++ [Item.mk t (c.version + 1) 0]) := by
          rw [show 0 + (i : Int).toNat = i by omega, itemRows_close hi]; simp [itemRows]
        have hlenR : (itemRows c.items).length + 1 = ((itemRows c.items).set (0 + (i : Int).toNat) [.int .i64 c.items[i].tab.id, .str c.items[i].tab.name, .sl (colRows c.items[i].tab.cols) false, .int .i64 c.items[i].from_, .int .i64 (c.version + 1)] ++ [(Item.mk t (c.version + 1) 0).row]).length := by simp
        refine W.leG (mp := [(4, 4)]) (bo := [11]) (st' := ⟨[(4, .bp 4 0), (5, .int .i64 0)], [(4, [.rows 3 [[.int .i64 (c.version + 1), .int .i64 c.oldest, .sl ((itemRows c.items).set (0 + (i : Int).toNat) [.int .i64 c.items[i].tab.id, .str c.items[i].tab.name, .sl (colRows c.items[i].tab.cols) false, .int .i64 c.items[i].from_, .int .i64 (c.version + 1)] ++ [(Item.mk t (c.version + 1) 0).row]) false]] none])], [4]⟩) (LeG.mk' rfl rfl rfl (by repeat' (first | exact trivial | exact ⟨_, .refl _, rfl⟩ | apply And.intro)) (.cons 4 (b1 := .rows 3 [[.int .i64 (c.version + 1), .int .i64 c.oldest, .sl ((itemRows c.items).set (0 + (i : Int).toNat) [.int .i64 c.items[i].tab.id, .str c.items[i].tab.name, .sl (colRows c.items[i].tab.cols) false, .int .i64 c.items[i].from_, .int .i64 (c.version + 1)] ++ [(Item.mk t (c.version + 1) 0).row]) false]] none) rfl rfl (.rows _ _ _ (by repeat' (first | exact trivial | exact ⟨Lent.refl _, rfl⟩ | exact ⟨Lent.norm _, rfl⟩ | exact ⟨Lent.whole rfl rfl (by first | rfl | exact List.length_append.symm | exact hlenR | simp) rfl (by first | exact .inl rfl | exact .inr rfl), rfl⟩ | apply And.intro))) rfl .nil) rfl rfl (by rw [hK]; rfl)) ?_
        (refine gM ?_; conv => whnf)
        exact ret0 rfl (congrArg (fun r => V.tup [.agg [.int .i64 (c.version + 1), .int .i64 c.oldest, .sl r false], .int .i64 0]) hr) rfl
end Go.Sx.Sp
namespace Go.Sx.Sp
open Go Go.Sx Go.Proofs
attribute [local irreducible] GoodW
def dropM (c : Coll) (id : Int) : Coll × Int :=
  if collB c = true then
    if ixFrom (hasB id) c.items 0 < 0 then (Coll.zero, 5)
    else if 1073741824 ≤ c.version then (Coll.zero, 3)
    else (⟨c.version + 1, c.oldest, closeAt c.items (ixFrom (hasB id) c.items 0) (c.version + 1)⟩, 0)
  else (Coll.zero, 1)
set_option maxHeartbeats 4000000 in
theorem drop_spec (c : Coll) (id : Int) : Spec Tryd.prog 32 [.agg c.row, .int .i64 id] [] (.tup [.agg (dropM c id).1.row, .int .i64 (dropM c id).2]) [] := by
  have sp1 := snapValid_spec c
  have sp3 := present_spec c id
  have hcl := itemRows_len c.items
  refine Spec.body env Tryd.func32 rfl (by kernel_rfl) (Nat.le_of_ble_eq_true (by kernel_rfl)) (keysSub rfl) fun Γ hN hK => ?_; have hML : maxLen = 9223372036854775807 := by unfold maxLen; rfl
  repeat (first | refine gA ?_ | refine gB ?_ | refine gC rfl ?_ | refine gD rfl ?_ | ((first | refine gE env hN (by kernel_rfl) ?_ | refine gF ?_ | refine gG ?_ | refine gH fun hlen => ?_ | refine gI (by kernel_rfl) ?_ | refine gN rfl ?_ | refine gN (by omega) ?_ | refine gJ rfl ?_ | refine gK (by omega) ?_ | refine gL (by omega) ?_ | refine gK rfl ?_ | refine gO ?_); conv => whnf))
  (refine ⟨_, _, _, callG [] [] [] rfl rfl rfl (by kernel_rfl) (sp3) (by repeat' (first | exact trivial | exact Lent.refl _ | exact Lent.norm _ | apply And.intro)) rfl ⟨rfl, rfl, rfl, rfl, rfl, trivial, rfl, rfl⟩, ?_⟩; conv => whnf)
  repeat (first | refine gA ?_ | refine gB ?_ | refine gC rfl ?_ | refine gD rfl ?_ | ((first | refine gE env hN (by kernel_rfl) ?_ | refine gF ?_ | refine gG ?_ | refine gH fun hlen => ?_ | refine gI (by kernel_rfl) ?_ | refine gN rfl ?_ | refine gN (by omega) ?_ | refine gJ rfl ?_ | refine gK (by omega) ?_ | refine gL (by omega) ?_ | refine gK rfl ?_ | refine gO ?_); conv => whnf))
  cases h1 : collB c with
  | false =>
    rw [h1] at sp1
    (refine ⟨_, _, _, callG [] [] [] rfl rfl rfl (by kernel_rfl) (sp1) (by repeat' (first | exact trivial | exact Lent.refl _ | exact Lent.norm _ | apply And.intro)) rfl ⟨rfl, rfl, rfl, rfl, rfl, trivial, rfl, rfl⟩, ?_⟩; conv => whnf)
    repeat (first | refine gA ?_ | refine gB ?_ | refine gC rfl ?_ | refine gD rfl ?_ | ((first | refine gE env hN (by kernel_rfl) ?_ | refine gF ?_ | refine gG ?_ | refine gH fun hlen => ?_ | refine gI (by kernel_rfl) ?_ | refine gN rfl ?_ | refine gN (by omega) ?_ | refine gJ rfl ?_ | refine gK (by omega) ?_ | refine gL (by omega) ?_ | refine gK rfl ?_ | refine gO ?_ | refine gM ?_); conv => whnf))
    exact ret0 rfl (by rw [show dropM c id = (Coll.zero, 1) by simp [dropM, h1]]; rfl) rfl
  | true =>
    rw [h1] at sp1
    (refine ⟨_, _, _, callG [] [] [] rfl rfl rfl (by kernel_rfl) (sp1) (by repeat' (first | exact trivial | exact Lent.refl _ | exact Lent.norm _ | apply And.intro)) rfl ⟨rfl, rfl, rfl, rfl, rfl, trivial, rfl, rfl⟩, ?_⟩; conv => whnf)
    have hfew := collB_few h1
    have hv0 : 0 ≤ c.version ∧ c.items.length ≤ 1024 := by
      simp only [collB, Bool.and_eq_true, decide_eq_true_eq] at h1
      omega
    have sp4 := snapOwn_spec c hfew
    rcases ixFrom_cases (hasB id) c.items 0 with ⟨h5, h6⟩ | ⟨i, hi, h5, h6⟩
    · have hm : dropM c id = (Coll.zero, 5) := by simp [dropM, h1, h5]
      rw [hm, h5]
      repeat (first | refine gA ?_ | refine gB ?_ | refine gC rfl ?_ | refine gD rfl ?_ | ((first | refine gE env hN (by kernel_rfl) ?_ | refine gF ?_ | refine gG ?_ | refine gH fun hlen => ?_ | refine gI (by kernel_rfl) ?_ | refine gN rfl ?_ | refine gN (by omega) ?_ | refine gJ rfl ?_ | refine gK (by omega) ?_ | refine gL (by omega) ?_ | refine gK rfl ?_ | refine gO ?_ | refine gM ?_); conv => whnf))
      exact ret0 rfl rfl rfl
    · rw [Nat.zero_add] at h5
      have h7 : ¬ ((i : Int) < 0) := by omega
      by_cases h8 : 1073741824 ≤ c.version
      · have hm : dropM c id = (Coll.zero, 3) := by simp [dropM, h1, h5, h8]
        rw [hm, h5]
        repeat (first | refine gA ?_ | refine gB ?_ | refine gC rfl ?_ | refine gD rfl ?_ | ((first | refine gE env hN (by kernel_rfl) ?_ | refine gF ?_ | refine gG ?_ | refine gH fun hlen => ?_ | refine gI (by kernel_rfl) ?_ | refine gN rfl ?_ | refine gN (by omega) ?_ | refine gJ rfl ?_ | refine gK (by omega) ?_ | refine gL (by omega) ?_ | refine gK rfl ?_ | refine gO ?_ | refine gM ?_); conv => whnf))
        exact ret0 rfl rfl rfl
      · have hm : dropM c id = (⟨c.version + 1, c.oldest, closeAt c.items i (c.version + 1)⟩, 0) := by simp [dropM, h1, h5, h8]
        rw [hm, h5]
        repeat (first | refine gA ?_ | refine gB ?_ | refine gC rfl ?_ | refine gD rfl ?_ | ((first | refine gE env hN (by kernel_rfl) ?_ | refine gF ?_ | refine gG ?_ | refine gH fun hlen => ?_ | refine gI (by kernel_rfl) ?_ | refine gN rfl ?_ | refine gN (by omega) ?_ | refine gJ rfl ?_ | refine gK (by omega) ?_ | refine gL (by omega) ?_ | refine gK rfl ?_ | refine gO ?_); conv => whnf))
        (refine ⟨_, _, _, callG [] [(7, 11)] [] rfl rfl rfl (by kernel_rfl) (sp4) (by repeat' (first | exact trivial | exact Lent.refl _ | exact Lent.norm _ | apply And.intro)) rfl ⟨rfl, rfl, rfl, rfl, rfl, by repeat' (first | exact trivial | rfl | apply And.intro), rfl, rfl⟩, ?_⟩; conv => whnf)
        repeat (first | refine gA ?_ | refine gB ?_ | refine gC rfl ?_ | refine gD rfl ?_ | ((first | refine gE env hN (by kernel_rfl) ?_ | refine gF ?_ | refine gG ?_ | refine gH fun hlen => ?_ | refine gI (by kernel_rfl) ?_ | refine gN rfl ?_ | refine gN (by omega) ?_ | refine gJ rfl ?_ | refine gK (by omega) ?_ | refine gL (by omega) ?_ | refine gK rfl ?_ | refine gO ?_); conv => whnf))
        refine rowAt_of (by simpa using itemRows_get hi) ?_
        conv => whnf
        repeat (first | refine gA ?_ | refine gB ?_ | refine gC rfl ?_ | refine gD rfl ?_ | ((first | refine gE env hN (by kernel_rfl) ?_ | refine gF ?_ | refine gG ?_ | refine gH fun hlen => ?_ | refine gI (by kernel_rfl) ?_ | refine gN rfl ?_ | refine gN (by omega) ?_ | refine gJ rfl ?_ | refine gK (by omega) ?_ | refine gL (by omega) ?_ | refine gK rfl ?_ | refine gO ?_); conv => whnf))
        have hr : (itemRows c.items).set (0 + (i : Int).toNat) [.int .i64 c.items[i].tab.id, .str c.items[i].tab.name, .sl (colRows c.items[i].tab.cols) false, .int .i64 c.items[i].from_, .int .i64 (c.version + 1)] = itemRows (closeAt c.items i (c.version + 1)) := by
          rw [show 0 + (i : Int).toNat = i by omega, itemRows_close hi]
        have hlenR : (itemRows c.items).length = ((itemRows c.items).set (0 + (i : Int).toNat) [.int .i64 c.items[i].tab.id, .str c.items[i].tab.name, .sl (colRows c.items[i].tab.cols) false, .int .i64 c.items[i].from_, .int .i64 (c.version + 1)]).length := List.length_set.symm
        refine W.leG (mp := [(4, 4)]) (bo := [11]) (st' := ⟨[(4, .bp 4 0), (5, .int .i64 0)], [(4, [.rows 3 [[.int .i64 (c.version + 1), .int .i64 c.oldest, .sl ((itemRows c.items).set (0 + (i : Int).toNat) [.int .i64 c.items[i].tab.id, .str c.items[i].tab.name, .sl (colRows c.items[i].tab.cols) false, .int .i64 c.items[i].from_, .int .i64 (c.version + 1)]) false]] none])], [4]⟩) (LeG.mk' rfl rfl rfl (by repeat' (first | exact trivial | exact ⟨_, .refl _, rfl⟩ | apply And.intro)) (.cons 4 (b1 := .rows 3 [[.int .i64 (c.version + 1), .int .i64 c.oldest, .sl ((itemRows c.items).set (0 + (i : Int).toNat) [.int .i64 c.items[i].tab.id, .str c.items[i].tab.name, .sl (colRows c.items[i].tab.cols) false, .int .i64 c.items[i].from_, .int .i64 (c.version + 1)]) false]] none) rfl rfl (.rows _ _ _ (by repeat' (first | exact trivial | exact ⟨Lent.refl _, rfl⟩ | exact ⟨Lent.norm _, rfl⟩ | exact ⟨Lent.whole rfl rfl (by first | rfl | exact List.length_append.symm | exact hlenR | simp) rfl (by first | exact .inl rfl | exact .inr rfl), rfl⟩ | apply And.intro))) rfl .nil) rfl rfl (by rw [hK]; rfl)) ?_
        (refine gM ?_; conv => whnf)
        exact ret0 rfl (congrArg (fun r => V.tup [.agg [.int .i64 (c.version + 1), .int .i64 c.oldest, .sl r false], .int .i64 0]) hr) rfl
end Go.Sx.Sp
namespace Go.Sx.Sp
open Go Go.Sx Go.Proofs
attribute [local irreducible] GoodW
theorem pure_cells (l : List Cell) : pureB (cellRows l) = true := by
  simp only [pureB, cellRows, List.all_map, List.all_eq_true]
  intro c _
  simp [Cell.row, V.sites]
theorem itemRows_snoc (a : List Item) (c : Item) : itemRows (a ++ [c]) = itemRows a ++ [c.row] := by simp [itemRows]
theorem tblRows_snoc (a : List Table) (c : Table) : tblRows (a ++ [c]) = tblRows a ++ [c.row] := by simp [tblRows]
set_option maxHeartbeats 4000000 in
theorem copy38_spec (t : Table) (ht : t.Few) : Spec Tryd.prog 80 [.agg t.row] [] (.agg t.row) [] := by
  have hcl := colRows_len t.cols
  have hcs := ht.cols
  refine Spec.body env Tryd.func80 rfl (by kernel_rfl) (Nat.le_of_ble_eq_true (by kernel_rfl)) (keysSub rfl) fun Γ hN hK => ?_; have hML : maxLen = 9223372036854775807 := by unfold maxLen; rfl
  repeat (first | refine gA ?_ | refine gB ?_ | refine gC rfl ?_ | refine gD rfl ?_ | ((first | refine gE env hN (by kernel_rfl) ?_ | refine gF ?_ | refine gG ?_ | refine gH fun hlen => ?_ | refine gI (by kernel_rfl) ?_ | refine gN rfl ?_ | refine gN (by omega) ?_ | refine gJ rfl ?_ | refine gK (by omega) ?_ | refine gL (by omega) ?_ | refine gK rfl ?_ | refine gO ?_); conv => whnf))
  refine W.ownCell 3 0 2 27 2 rfl rfl rfl rfl rfl ?_
  refine W.loopG (fun n st => ∃ k : Nat, k ≤ t.cols.length ∧ n = t.cols.length - k ∧ st = ⟨[(1, .bp 1 0), (2, .bp 2 0), (3, .bp 3 0), (12, .sl (colRows t.cols) false), (13, .int .i64 (colRows t.cols).length), (14, .int .i64 k)], [(1, [.rows 3 [t.row] none]), (2, [.rows 3 [[.int .i64 0, .str [], .nils]] none]), (3, [.rows 3 [[.int .i64 t.id, .str t.name, .osl 27 0 0 (colRows (t.cols.take k)).length (colRows (t.cols.take k)).length]] none]), (27, [.rows 2 (colRows (t.cols.take k)) (some [])])], [1, 2, 3, 27]⟩)
    t.cols.length _ ⟨0, Nat.zero_le _, rfl, rfl⟩ ⟨[(1, 1), (2, 2), (3, 3), (27, 27)], [], [], LeG.mk' rfl rfl rfl (by repeat' (first | exact trivial | exact ⟨_, .refl _, rfl⟩ | apply And.intro)) (.cons 1 rfl rfl (.refl _) rfl (.cons 2 rfl rfl (.refl _) rfl (.cons 3 rfl rfl (.refl _) rfl (.cons 27 rfl rfl (.refl _) rfl .nil)))) rfl rfl (by rw [hK]; rfl)⟩ ?_
  rintro n st ⟨k, hk, rfl, rfl⟩
  repeat (first | refine gA ?_ | refine gB ?_ | refine gC rfl ?_ | refine gD rfl ?_ | ((first | refine gE env hN (by kernel_rfl) ?_ | refine gF ?_ | refine gG ?_ | refine gH fun hlen => ?_ | refine gI (by kernel_rfl) ?_ | refine gN rfl ?_ | refine gN (by omega) ?_ | refine gJ rfl ?_ | refine gK (by omega) ?_ | refine gL (by omega) ?_ | refine gK rfl ?_ | refine gO ?_); conv => whnf))
  refine boolRes_split (fun hb => ?_) (fun hb => ?_) <;> conv => whnf
  · have hlt : k < t.cols.length := by omega
    have hx := colRows_get hlt
    have hcc := ht.cells _ (List.getElem_mem hlt)
    have htk : t.cols.take k ++ [t.cols[k]] = t.cols.take (k + 1) := (List.take_succ_eq_append_getElem hlt).symm
    have hcr := cellRows_len t.cols[k].cells
    have hlk : (colRows (t.cols.take k)).length = k := by rw [colRows_len]; simp; omega
    have hn := colRows_snoc (t.cols.take k) t.cols[k]
    rw [htk] at hn
    generalize t.cols[k] = c at *
    repeat (first | refine gA ?_ | refine gB ?_ | refine gC rfl ?_ | refine gD rfl ?_ | ((first | refine gE env hN (by kernel_rfl) ?_ | refine gF ?_ | refine gG ?_ | refine gH fun hlen => ?_ | refine gI (by kernel_rfl) ?_ | refine gN rfl ?_ | refine gN (by omega) ?_ | refine gJ rfl ?_ | refine gK (by omega) ?_ | refine gL (by omega) ?_ | refine gK rfl ?_ | refine gO ?_); conv => whnf))
    refine rowAt_of hx ?_
    conv => whnf
    repeat (first | refine gA ?_ | refine gB ?_ | refine gC rfl ?_ | refine gD rfl ?_ | ((first | refine gE env hN (by kernel_rfl) ?_ | refine gF ?_ | refine gG ?_ | refine gH fun hlen => ?_ | refine gI (by kernel_rfl) ?_ | refine gN rfl ?_ | refine gN (by omega) ?_ | refine gJ rfl ?_ | refine gK (by omega) ?_ | refine gL (by omega) ?_ | refine gK rfl ?_ | refine gO ?_); conv => whnf))
    refine ⟨cellRows_sz _, fitN (b := 24) (by rw [hcr]; exact hcc) (by omega), Or.inr ⟨⟨rfl, rfl, rfl, pure_cells _⟩, ?_⟩⟩
    conv => whnf
    repeat (first | refine gA ?_ | refine gB ?_ | refine gC rfl ?_ | refine gD rfl ?_ | ((first | refine gE env hN (by kernel_rfl) ?_ | refine gF ?_ | refine gG ?_ | refine gH fun hlen => ?_ | refine gI (by kernel_rfl) ?_ | refine gN rfl ?_ | refine gN (by omega) ?_ | refine gJ rfl ?_ | refine gK (by omega) ?_ | refine gL (by omega) ?_ | refine gK rfl ?_ | refine gO ?_); conv => whnf))
    refine ⟨⟨rowsSz_cons rfl rowsSz_nil, rfl⟩, fitN (n := (colRows (t.cols.take k)).length + 1) (b := 40) (by omega) (by omega), .inl ⟨rfl, rfl, ?_⟩⟩
    conv => whnf
    repeat (first | refine gA ?_ | refine gB ?_ | refine gC rfl ?_ | refine gD rfl ?_ | ((first | refine gE env hN (by kernel_rfl) ?_ | refine gF ?_ | refine gG ?_ | refine gH fun hlen => ?_ | refine gI (by kernel_rfl) ?_ | refine gN rfl ?_ | refine gN (by omega) ?_ | refine gJ rfl ?_ | refine gK (by omega) ?_ | refine gL (by omega) ?_ | refine gK rfl ?_ | refine gO ?_); conv => whnf))
    refine ⟨_, _, ?_, ⟨k + 1, by omega, rfl, rfl⟩, [(1, 1), (2, 2), (3, 3), (27, 27)], [], [], LeG.mk' rfl rfl rfl (by repeat' (first | exact trivial | exact ⟨_, .refl _, rfl⟩ | apply And.intro)) (.cons 1 rfl rfl (.refl _) rfl (.cons 2 rfl rfl (.refl _) rfl (.cons 3 rfl rfl (.refl _) ?_ (.cons 27 rfl rfl (.refl _) ?_ .nil)))) rfl rfl (by rw [hK]; rfl)⟩
    · omega
    · rw [hn, List.length_append]; rfl
    · rw [hn]; rfl
  · have hke : k = t.cols.length := by omega
    subst hke
    rw [List.take_length]
    repeat (first | refine gA ?_ | refine gB ?_ | refine gC rfl ?_ | refine gD rfl ?_ | ((first | refine gE env hN (by kernel_rfl) ?_ | refine gF ?_ | refine gG ?_ | refine gH fun hlen => ?_ | refine gI (by kernel_rfl) ?_ | refine gN rfl ?_ | refine gN (by omega) ?_ | refine gJ rfl ?_ | refine gK (by omega) ?_ | refine gL (by omega) ?_ | refine gK rfl ?_ | refine gO ?_); conv => whnf))
    refine W.leG (mp := [(2, 2)]) (bo := [27]) (st' := ⟨[(2, .bp 2 0)], [(2, [.rows 3 [t.row] none])], [2]⟩) (LeG.mk' rfl rfl rfl (by repeat' (first | exact trivial | exact ⟨_, .refl _, rfl⟩ | apply And.intro)) (.cons 2 (b1 := .rows 3 [t.row] none) rfl rfl (.rows _ _ _ (by repeat' (first | exact trivial | exact ⟨Lent.refl _, rfl⟩ | exact ⟨Lent.norm _, rfl⟩ | exact ⟨Lent.whole rfl rfl (by first | rfl | exact List.length_append.symm | exact hlenR | simp) rfl (by first | exact .inl rfl | exact .inr rfl), rfl⟩ | apply And.intro))) rfl .nil) rfl rfl (by rw [hK]; rfl)) ?_
    (refine gM ?_; conv => whnf)
    exact ret0 rfl rfl rfl
set_option maxHeartbeats 4000000 in
theorem copy41_spec (c : Coll) (hc : c.Few) : Spec Tryd.prog 78 [.agg c.row] [] (.agg [.int .i64 c.version, .int .i64 c.oldest, .osl 27 0 0 (itemRows c.items).length (itemRows c.items).length]) [(27, .rows 5 (itemRows c.items) (some []))] := by
  have hcl := itemRows_len c.items
  have hcs := hc.1
  refine Spec.body env Tryd.func78 rfl (by kernel_rfl) (Nat.le_of_ble_eq_true (by kernel_rfl)) (keysSub rfl) fun Γ hN hK => ?_; have hML : maxLen = 9223372036854775807 := by unfold maxLen; rfl
  repeat (first | refine gA ?_ | refine gB ?_ | refine gC rfl ?_ | refine gD rfl ?_ | ((first | refine gE env hN (by kernel_rfl) ?_ | refine gF ?_ | refine gG ?_ | refine gH fun hlen => ?_ | refine gI (by kernel_rfl) ?_ | refine gN rfl ?_ | refine gN (by omega) ?_ | refine gJ rfl ?_ | refine gK (by omega) ?_ | refine gL (by omega) ?_ | refine gK rfl ?_ | refine gO ?_); conv => whnf))
  refine W.ownCell 3 0 2 27 5 rfl rfl rfl rfl rfl ?_
  refine W.loopG (fun n st => ∃ k : Nat, k ≤ c.items.length ∧ n = c.items.length - k ∧ st = ⟨[(1, .bp 1 0), (2, .bp 2 0), (3, .bp 3 0), (12, .sl (itemRows c.items) false), (13, .int .i64 (itemRows c.items).length), (14, .int .i64 k)], [(1, [.rows 3 [c.row] none]), (2, [.rows 3 [[.int .i64 0, .int .i64 0, .nils]] none]), (3, [.rows 3 [[.int .i64 c.version, .int .i64 c.oldest, .osl 27 0 0 (itemRows (c.items.take k)).length (itemRows (c.items.take k)).length]] none]), (27, [.rows 5 (itemRows (c.items.take k)) (some [])])], [1, 2, 3, 27]⟩)
    c.items.length _ ⟨0, Nat.zero_le _, rfl, rfl⟩ ⟨[(1, 1), (2, 2), (3, 3), (27, 27)], [], [], LeG.mk' rfl rfl rfl (by repeat' (first | exact trivial | exact ⟨_, .refl _, rfl⟩ | apply And.intro)) (.cons 1 rfl rfl (.refl _) rfl (.cons 2 rfl rfl (.refl _) rfl (.cons 3 rfl rfl (.refl _) rfl (.cons 27 rfl rfl (.refl _) rfl .nil)))) rfl rfl (by rw [hK]; rfl)⟩ ?_
  rintro n st ⟨k, hk, rfl, rfl⟩
  repeat (first | refine gA ?_ | refine gB ?_ | refine gC rfl ?_ | refine gD rfl ?_ | ((first | refine gE env hN (by kernel_rfl) ?_ | refine gF ?_ | refine gG ?_ | refine gH fun hlen => ?_ | refine gI (by kernel_rfl) ?_ | refine gN rfl ?_ | refine gN (by omega) ?_ | refine gJ rfl ?_ | refine gK (by omega) ?_ | refine gL (by omega) ?_ | refine gK rfl ?_ | refine gO ?_); conv => whnf))
  refine boolRes_split (fun hb => ?_) (fun hb => ?_) <;> conv => whnf
  · have hlt : k < c.items.length := by omega
    have hx := itemRows_get hlt
    have hcc := hc.2 _ (List.getElem_mem hlt)
    have htk : c.items.take k ++ [c.items[k]] = c.items.take (k + 1) := (List.take_succ_eq_append_getElem hlt).symm
    have hlk : (itemRows (c.items.take k)).length = k := by rw [itemRows_len]; simp; omega
    have hn := itemRows_snoc (c.items.take k) c.items[k]
    rw [htk] at hn
    generalize c.items[k] = x at *
    repeat (first | refine gA ?_ | refine gB ?_ | refine gC rfl ?_ | refine gD rfl ?_ | ((first | refine gE env hN (by kernel_rfl) ?_ | refine gF ?_ | refine gG ?_ | refine gH fun hlen => ?_ | refine gI (by kernel_rfl) ?_ | refine gN rfl ?_ | refine gN (by omega) ?_ | refine gJ rfl ?_ | refine gK (by omega) ?_ | refine gL (by omega) ?_ | refine gK rfl ?_ | refine gO ?_); conv => whnf))
    refine rowAt_of hx ?_
    conv => whnf
    repeat (first | refine gA ?_ | refine gB ?_ | refine gC rfl ?_ | refine gD rfl ?_ | ((first | refine gE env hN (by kernel_rfl) ?_ | refine gF ?_ | refine gG ?_ | refine gH fun hlen => ?_ | refine gI (by kernel_rfl) ?_ | refine gN rfl ?_ | refine gN (by omega) ?_ | refine gJ rfl ?_ | refine gK (by omega) ?_ | refine gL (by omega) ?_ | refine gK rfl ?_ | refine gO ?_); conv => whnf))
    (refine ⟨_, _, _, callG [] [] [] rfl rfl rfl (by kernel_rfl) (copy38_spec x.tab hcc) (by repeat' (first | exact trivial | exact Lent.refl _ | exact Lent.norm _ | apply And.intro)) rfl ⟨rfl, rfl, rfl, rfl, rfl, trivial, rfl, rfl⟩, ?_⟩; conv => whnf)
    repeat (first | refine gA ?_ | refine gB ?_ | refine gC rfl ?_ | refine gD rfl ?_ | ((first | refine gE env hN (by kernel_rfl) ?_ | refine gF ?_ | refine gG ?_ | refine gH fun hlen => ?_ | refine gI (by kernel_rfl) ?_ | refine gN rfl ?_ | refine gN (by omega) ?_ | refine gJ rfl ?_ | refine gK (by omega) ?_ | refine gL (by omega) ?_ | refine gK rfl ?_ | refine gO ?_); conv => whnf))
    refine ⟨⟨rowsSz_cons rfl rowsSz_nil, rfl⟩, fitN (n := (itemRows (c.items.take k)).length + 1) (b := 64) (by omega) (by omega), .inl ⟨rfl, rfl, ?_⟩⟩
    conv => whnf
    repeat (first | refine gA ?_ | refine gB ?_ | refine gC rfl ?_ | refine gD rfl ?_ | ((first | refine gE env hN (by kernel_rfl) ?_ | refine gF ?_ | refine gG ?_ | refine gH fun hlen => ?_ | refine gI (by kernel_rfl) ?_ | refine gN rfl ?_ | refine gN (by omega) ?_ | refine gJ rfl ?_ | refine gK (by omega) ?_ | refine gL (by omega) ?_ | refine gK rfl ?_ | refine gO ?_); conv => whnf))
    refine ⟨_, _, ?_, ⟨k + 1, by omega, rfl, rfl⟩, [(1, 1), (2, 2), (3, 3), (27, 27)], [], [], LeG.mk' rfl rfl rfl (by repeat' (first | exact trivial | exact ⟨_, .refl _, rfl⟩ | apply And.intro)) (.cons 1 rfl rfl (.refl _) rfl (.cons 2 rfl rfl (.refl _) rfl (.cons 3 rfl rfl (.refl _) ?_ (.cons 27 rfl rfl (.refl _) ?_ .nil)))) rfl rfl (by rw [hK]; rfl)⟩
    · omega
    · rw [hn, List.length_append]; rfl
    · rw [hn]; rfl
  · have hke : k = c.items.length := by omega
    subst hke
    rw [List.take_length]
    repeat (first | refine gA ?_ | refine gB ?_ | refine gC rfl ?_ | refine gD rfl ?_ | ((first | refine gE env hN (by kernel_rfl) ?_ | refine gF ?_ | refine gG ?_ | refine gH fun hlen => ?_ | refine gI (by kernel_rfl) ?_ | refine gN rfl ?_ | refine gN (by omega) ?_ | refine gJ rfl ?_ | refine gK (by omega) ?_ | refine gL (by omega) ?_ | refine gK rfl ?_ | refine gO ?_); conv => whnf))
    (refine gM ?_; conv => whnf)
    exact retH rfl (.refl _) rfl rfl rfl ⟨rfl, rfl, trivial⟩
set_option maxHeartbeats 2000000 in
theorem find41_spec (c : Coll) (id : Int) : Spec Tryd.prog 79 [.agg c.row, .int .i64 id] [] (.int .i64 (ixFrom (hasB id) c.items 0)) [] := by
  have hcl := itemRows_len c.items
  refine Spec.body env Tryd.func79 rfl (by kernel_rfl) (Nat.le_of_ble_eq_true (by kernel_rfl)) (keysSub rfl) fun Γ hN hK => ?_; have hML : maxLen = 9223372036854775807 := by unfold maxLen; rfl
  repeat (first | refine gA ?_ | refine gB ?_ | refine gC rfl ?_ | refine gD rfl ?_ | ((first | refine gE env hN (by kernel_rfl) ?_ | refine gF ?_ | refine gG ?_ | refine gH fun hlen => ?_ | refine gI (by kernel_rfl) ?_ | refine gN rfl ?_ | refine gN (by omega) ?_ | refine gJ rfl ?_ | refine gK (by omega) ?_ | refine gL (by omega) ?_ | refine gK rfl ?_ | refine gO ?_); conv => whnf))
  refine W.loopG (fun n st => ∃ k : Nat, k ≤ c.items.length ∧ ixFrom (hasB id) c.items 0 = ixFrom (hasB id) (c.items.drop k) k ∧ n = c.items.length - k ∧ st = ⟨[(1, .int .i64 id), (2, .bp 2 0), (8, .sl (itemRows c.items) false), (9, .int .i64 (itemRows c.items).length), (10, .int .i64 k)], [(2, [.rows 3 [c.row] none])], [2]⟩)
    c.items.length _ ⟨0, Nat.zero_le _, by simp, rfl, rfl⟩ ⟨[(2, 2)], [], [], LeG.mk' rfl rfl rfl (by repeat' (first | exact trivial | exact ⟨_, .refl _, rfl⟩ | apply And.intro)) (.cons 2 rfl rfl (.refl _) rfl .nil) rfl rfl (by rw [hK]; rfl)⟩ ?_
  rintro n st ⟨k, hk, hix, rfl, rfl⟩
  repeat (first | refine gA ?_ | refine gB ?_ | refine gC rfl ?_ | refine gD rfl ?_ | ((first | refine gE env hN (by kernel_rfl) ?_ | refine gF ?_ | refine gG ?_ | refine gH fun hlen => ?_ | refine gI (by kernel_rfl) ?_ | refine gN rfl ?_ | refine gN (by omega) ?_ | refine gJ rfl ?_ | refine gK (by omega) ?_ | refine gL (by omega) ?_ | refine gK rfl ?_ | refine gO ?_); conv => whnf))
  refine boolRes_split (fun hb => ?_) (fun hb => ?_) <;> conv => whnf
  · have hlt : k < c.items.length := by omega
    have hx := itemRows_get hlt
    rw [List.drop_eq_getElem_cons hlt] at hix
    generalize c.items[k] = x at *
    simp only [ixFrom] at hix
    repeat (first | refine gA ?_ | refine gB ?_ | refine gC rfl ?_ | refine gD rfl ?_ | ((first | refine gE env hN (by kernel_rfl) ?_ | refine gF ?_ | refine gG ?_ | refine gH fun hlen => ?_ | refine gI (by kernel_rfl) ?_ | refine gN rfl ?_ | refine gN (by omega) ?_ | refine gJ rfl ?_ | refine gK (by omega) ?_ | refine gL (by omega) ?_ | refine gK rfl ?_ | refine gO ?_); conv => whnf))
    refine rowAt_of hx ?_
    conv => whnf
    repeat (first | refine gA ?_ | refine gB ?_ | refine gC rfl ?_ | refine gD rfl ?_ | ((first | refine gE env hN (by kernel_rfl) ?_ | refine gF ?_ | refine gG ?_ | refine gH fun hlen => ?_ | refine gI (by kernel_rfl) ?_ | refine gN rfl ?_ | refine gN (by omega) ?_ | refine gJ rfl ?_ | refine gK (by omega) ?_ | refine gL (by omega) ?_ | refine gK rfl ?_ | refine gO ?_); conv => whnf))
    refine boolRes_split (fun hb => ?_) (fun hb => ?_) <;> conv => whnf
    · repeat (first | refine gA ?_ | refine gB ?_ | refine gC rfl ?_ | refine gD rfl ?_ | ((first | refine gE env hN (by kernel_rfl) ?_ | refine gF ?_ | refine gG ?_ | refine gH fun hlen => ?_ | refine gI (by kernel_rfl) ?_ | refine gN rfl ?_ | refine gN (by omega) ?_ | refine gJ rfl ?_ | refine gK (by omega) ?_ | refine gL (by omega) ?_ | refine gK rfl ?_ | refine gO ?_); conv => whnf))
      refine boolRes_split (fun hb => ?_) (fun hb => ?_) <;> conv => whnf
      · repeat (first | refine gA ?_ | refine gB ?_ | refine gC rfl ?_ | refine gD rfl ?_ | ((first | refine gE env hN (by kernel_rfl) ?_ | refine gF ?_ | refine gG ?_ | refine gH fun hlen => ?_ | refine gI (by kernel_rfl) ?_ | refine gN rfl ?_ | refine gN (by omega) ?_ | refine gJ rfl ?_ | refine gK (by omega) ?_ | refine gL (by omega) ?_ | refine gK rfl ?_ | refine gO ?_ | refine gM ?_); conv => whnf))
        exact ret0 rfl (congrArg (V.int .i64) (by rw [hix, if_pos (by simp [hasB]; omega)])) rfl
      · skip
        repeat (first | refine gA ?_ | refine gB ?_ | refine gC rfl ?_ | refine gD rfl ?_ | ((first | refine gE env hN (by kernel_rfl) ?_ | refine gF ?_ | refine gG ?_ | refine gH fun hlen => ?_ | refine gI (by kernel_rfl) ?_ | refine gN rfl ?_ | refine gN (by omega) ?_ | refine gJ rfl ?_ | refine gK (by omega) ?_ | refine gL (by omega) ?_ | refine gK rfl ?_ | refine gO ?_); conv => whnf))
        refine ⟨_, _, ?_, ⟨k + 1, by omega, by rw [hix, if_neg (by simp [hasB]; omega)], rfl, rfl⟩, ⟨[(2, 2)], [], [], LeG.mk' rfl rfl rfl (by repeat' (first | exact trivial | exact ⟨_, .refl _, rfl⟩ | apply And.intro)) (.cons 2 rfl rfl (.refl _) rfl .nil) rfl rfl (by rw [hK]; rfl)⟩⟩
        omega
    · skip
      repeat (first | refine gA ?_ | refine gB ?_ | refine gC rfl ?_ | refine gD rfl ?_ | ((first | refine gE env hN (by kernel_rfl) ?_ | refine gF ?_ | refine gG ?_ | refine gH fun hlen => ?_ | refine gI (by kernel_rfl) ?_ | refine gN rfl ?_ | refine gN (by omega) ?_ | refine gJ rfl ?_ | refine gK (by omega) ?_ | refine gL (by omega) ?_ | refine gK rfl ?_ | refine gO ?_); conv => whnf))
      refine ⟨_, _, ?_, ⟨k + 1, by omega, by rw [hix, if_neg (by simp [hasB]; omega)], rfl, rfl⟩, ⟨[(2, 2)], [], [], LeG.mk' rfl rfl rfl (by repeat' (first | exact trivial | exact ⟨_, .refl _, rfl⟩ | apply And.intro)) (.cons 2 rfl rfl (.refl _) rfl .nil) rfl rfl (by rw [hK]; rfl)⟩⟩
      omega
  · have hke : k = c.items.length := by omega
    rw [hke, List.drop_length] at hix
    repeat (first | refine gA ?_ | refine gB ?_ | refine gC rfl ?_ | refine gD rfl ?_ | ((first | refine gE env hN (by kernel_rfl) ?_ | refine gF ?_ | refine gG ?_ | refine gH fun hlen => ?_ | refine gI (by kernel_rfl) ?_ | refine gN rfl ?_ | refine gN (by omega) ?_ | refine gJ rfl ?_ | refine gK (by omega) ?_ | refine gL (by omega) ?_ | refine gK rfl ?_ | refine gO ?_ | refine gM ?_); conv => whnf))
    exact ret0 rfl (congrArg (V.int .i64) (by rw [hix]; rfl)) rfl
end Go.Sx.Sp
namespace Go.Sx.Sp
open Go Go.Sx Go.Proofs
attribute [local irreducible] GoodW
set_option maxHeartbeats 8000000 in
theorem valid41_spec (c : Coll) : Spec Tryd.prog 40 [.agg c.row] [] (.bool (collB c)) [] := by
  have hl := itemRows_len c.items
  refine Spec.body env Tryd.func40 rfl (by kernel_rfl) (Nat.le_of_ble_eq_true (by kernel_rfl)) (keysSub rfl) fun Γ hN hK => ?_; have hML : maxLen = 9223372036854775807 := by unfold maxLen; rfl
  repeat (first | refine gA ?_ | refine gB ?_ | refine gC rfl ?_ | refine gD rfl ?_ | ((first | refine gE env hN (by kernel_rfl) ?_ | refine gF ?_ | refine gG ?_ | refine gH fun hlen => ?_ | refine gI (by kernel_rfl) ?_ | refine gN rfl ?_ | refine gN (by omega) ?_ | refine gJ rfl ?_ | refine gK (by omega) ?_ | refine gL (by omega) ?_ | refine gK rfl ?_ | refine gO ?_); conv => whnf))
  refine boolRes_split (fun hb => ?_) (fun hb => ?_) <;> conv => whnf
  · repeat (first | refine gA ?_ | refine gB ?_ | refine gC rfl ?_ | refine gD rfl ?_ | ((first | refine gE env hN (by kernel_rfl) ?_ | refine gF ?_ | refine gG ?_ | refine gH fun hlen => ?_ | refine gI (by kernel_rfl) ?_ | refine gN rfl ?_ | refine gN (by omega) ?_ | refine gJ rfl ?_ | refine gK (by omega) ?_ | refine gL (by omega) ?_ | refine gK rfl ?_ | refine gO ?_ | refine gM ?_); conv => whnf))
    exact ret0 rfl (congrArg V.bool (by simp [collB]; omega)) rfl
  repeat (first | refine gA ?_ | refine gB ?_ | refine gC rfl ?_ | refine gD rfl ?_ | ((first | refine gE env hN (by kernel_rfl) ?_ | refine gF ?_ | refine gG ?_ | refine gH fun hlen => ?_ | refine gI (by kernel_rfl) ?_ | refine gN rfl ?_ | refine gN (by omega) ?_ | refine gJ rfl ?_ | refine gK (by omega) ?_ | refine gL (by omega) ?_ | refine gK rfl ?_ | refine gO ?_); conv => whnf))
  refine boolRes_split (fun hb => ?_) (fun hb => ?_) <;> conv => whnf
  · repeat (first | refine gA ?_ | refine gB ?_ | refine gC rfl ?_ | refine gD rfl ?_ | ((first | refine gE env hN (by kernel_rfl) ?_ | refine gF ?_ | refine gG ?_ | refine gH fun hlen => ?_ | refine gI (by kernel_rfl) ?_ | refine gN rfl ?_ | refine gN (by omega) ?_ | refine gJ rfl ?_ | refine gK (by omega) ?_ | refine gL (by omega) ?_ | refine gK rfl ?_ | refine gO ?_ | refine gM ?_); conv => whnf))
    exact ret0 rfl (congrArg V.bool (by simp [collB]; omega)) rfl
  repeat (first | refine gA ?_ | refine gB ?_ | refine gC rfl ?_ | refine gD rfl ?_ | ((first | refine gE env hN (by kernel_rfl) ?_ | refine gF ?_ | refine gG ?_ | refine gH fun hlen => ?_ | refine gI (by kernel_rfl) ?_ | refine gN rfl ?_ | refine gN (by omega) ?_ | refine gJ rfl ?_ | refine gK (by omega) ?_ | refine gL (by omega) ?_ | refine gK rfl ?_ | refine gO ?_); conv => whnf))
  refine boolRes_split (fun hb => ?_) (fun hb => ?_) <;> conv => whnf
  · repeat (first | refine gA ?_ | refine gB ?_ | refine gC rfl ?_ | refine gD rfl ?_ | ((first | refine gE env hN (by kernel_rfl) ?_ | refine gF ?_ | refine gG ?_ | refine gH fun hlen => ?_ | refine gI (by kernel_rfl) ?_ | refine gN rfl ?_ | refine gN (by omega) ?_ | refine gJ rfl ?_ | refine gK (by omega) ?_ | refine gL (by omega) ?_ | refine gK rfl ?_ | refine gO ?_ | refine gM ?_); conv => whnf))
    exact ret0 rfl (congrArg V.bool (by simp [collB]; omega)) rfl
  repeat (first | refine gA ?_ | refine gB ?_ | refine gC rfl ?_ | refine gD rfl ?_ | ((first | refine gE env hN (by kernel_rfl) ?_ | refine gF ?_ | refine gG ?_ | refine gH fun hlen => ?_ | refine gI (by kernel_rfl) ?_ | refine gN rfl ?_ | refine gN (by omega) ?_ | refine gJ rfl ?_ | refine gK (by omega) ?_ | refine gL (by omega) ?_ | refine gK rfl ?_ | refine gO ?_); conv => whnf))
  refine boolRes_split (fun hb => ?_) (fun hb => ?_) <;> conv => whnf
  · repeat (first | refine gA ?_ | refine gB ?_ | refine gC rfl ?_ | refine gD rfl ?_ | ((first | refine gE env hN (by kernel_rfl) ?_ | refine gF ?_ | refine gG ?_ | refine gH fun hlen => ?_ | refine gI (by kernel_rfl) ?_ | refine gN rfl ?_ | refine gN (by omega) ?_ | refine gJ rfl ?_ | refine gK (by omega) ?_ | refine gL (by omega) ?_ | refine gK rfl ?_ | refine gO ?_ | refine gM ?_); conv => whnf))
    exact ret0 rfl (congrArg V.bool (by simp [collB]; omega)) rfl
  have e1 : 0 ≤ c.oldest ∧ c.oldest ≤ c.version ∧ c.version ≤ 1073741824 ∧ c.items.length ≤ 1024 := by omega
  have hv : collB c = itemsOK c.version [] c.items := by simp [collB, e1]
  rw [hv]
  repeat (first | refine gA ?_ | refine gB ?_ | refine gC rfl ?_ | refine gD rfl ?_ | ((first | refine gE env hN (by kernel_rfl) ?_ | refine gF ?_ | refine gG ?_ | refine gH fun hlen => ?_ | refine gI (by kernel_rfl) ?_ | refine gN rfl ?_ | refine gN (by omega) ?_ | refine gJ rfl ?_ | refine gK (by omega) ?_ | refine gL (by omega) ?_ | refine gK rfl ?_ | refine gO ?_); conv => whnf))
  refine W.loopG (fun n st => ∃ k, k ≤ c.items.length ∧ itemsOK c.version [] c.items = itemsOK c.version (c.items.take k) (c.items.drop k) ∧ n = c.items.length - k ∧ st = ⟨[(1, .bp 1 0), (29, .sl (itemRows c.items) false), (30, .int .i64 (itemRows c.items).length), (31, .int .i64 k)], [(1, [.rows 3 [c.row] none])], [1]⟩)
    c.items.length _ ⟨0, Nat.zero_le _, by simp, rfl, rfl⟩ ⟨[(1, 1)], [], [], LeG.mk' rfl rfl rfl (by repeat' (first | exact trivial | exact ⟨_, .refl _, rfl⟩ | apply And.intro)) (.cons 1 rfl rfl (.refl _) rfl .nil) rfl rfl (by rw [hK]; rfl)⟩ ?_
  rintro n st ⟨k, hk, hok, rfl, rfl⟩
  repeat (first | refine gA ?_ | refine gB ?_ | refine gC rfl ?_ | refine gD rfl ?_ | ((first | refine gE env hN (by kernel_rfl) ?_ | refine gF ?_ | refine gG ?_ | refine gH fun hlen => ?_ | refine gI (by kernel_rfl) ?_ | refine gN rfl ?_ | refine gN (by omega) ?_ | refine gJ rfl ?_ | refine gK (by omega) ?_ | refine gL (by omega) ?_ | refine gK rfl ?_ | refine gO ?_); conv => whnf))
  refine boolRes_split (fun hb => ?_) (fun hb => ?_) <;> conv => whnf
  · have hlt : k < c.items.length := by omega
    have hx := itemRows_get hlt
    rw [List.drop_eq_getElem_cons hlt] at hok
    have htk : c.items.take k ++ [c.items[k]] = c.items.take (k + 1) := (List.take_succ_eq_append_getElem hlt).symm
    simp only [itemsOK, htk] at hok
    have sp1 := valid3_spec c.items[k].tab
    have e2 : (itemRows c.items).take k = itemRows (c.items.take k) := by simp [itemRows]
    have e3 : (c.items.take k).length = k := by simp; omega
    have hpl := itemRows_len (c.items.take k)
    generalize c.items[k] = x at *
    repeat (first | refine gA ?_ | refine gB ?_ | refine gC rfl ?_ | refine gD rfl ?_ | ((first | refine gE env hN (by kernel_rfl) ?_ | refine gF ?_ | refine gG ?_ | refine gH fun hlen => ?_ | refine gI (by kernel_rfl) ?_ | refine gN rfl ?_ | refine gN (by omega) ?_ | refine gJ rfl ?_ | refine gK (by omega) ?_ | refine gL (by omega) ?_ | refine gK rfl ?_ | refine gO ?_); conv => whnf))
    refine rowAt_of hx ?_
    conv => whnf
    repeat (first | refine gA ?_ | refine gB ?_ | refine gC rfl ?_ | refine gD rfl ?_ | ((first | refine gE env hN (by kernel_rfl) ?_ | refine gF ?_ | refine gG ?_ | refine gH fun hlen => ?_ | refine gI (by kernel_rfl) ?_ | refine gN rfl ?_ | refine gN (by omega) ?_ | refine gJ rfl ?_ | refine gK (by omega) ?_ | refine gL (by omega) ?_ | refine gK rfl ?_ | refine gO ?_); conv => whnf))
    cases h1 : validB x.tab with
    | false =>
      rw [h1] at sp1
      have hp : properB c.version x = false := by simp [properB, h1]
      rw [hp] at hok
      (refine ⟨_, _, _, callG [] [] [] rfl rfl rfl (by kernel_rfl) (sp1) (by repeat' (first | exact trivial | exact Lent.refl _ | exact Lent.norm _ | apply And.intro)) rfl ⟨rfl, rfl, rfl, rfl, rfl, trivial, rfl, rfl⟩, ?_⟩; conv => whnf)
      repeat (first | refine gA ?_ | refine gB ?_ | refine gC rfl ?_ | refine gD rfl ?_ | ((first | refine gE env hN (by kernel_rfl) ?_ | refine gF ?_ | refine gG ?_ | refine gH fun hlen => ?_ | refine gI (by kernel_rfl) ?_ | refine gN rfl ?_ | refine gN (by omega) ?_ | refine gJ rfl ?_ | refine gK (by omega) ?_ | refine gL (by omega) ?_ | refine gK rfl ?_ | refine gO ?_ | refine gM ?_); conv => whnf))
      exact ret0 rfl (congrArg V.bool (by rw [hok]; rfl)) rfl
    | true =>
      rw [h1] at sp1
      (refine ⟨_, _, _, callG [] [] [] rfl rfl rfl (by kernel_rfl) (sp1) (by repeat' (first | exact trivial | exact Lent.refl _ | exact Lent.norm _ | apply And.intro)) rfl ⟨rfl, rfl, rfl, rfl, rfl, trivial, rfl, rfl⟩, ?_⟩; conv => whnf)
      repeat (first | refine gA ?_ | refine gB ?_ | refine gC rfl ?_ | refine gD rfl ?_ | ((first | refine gE env hN (by kernel_rfl) ?_ | refine gF ?_ | refine gG ?_ | refine gH fun hlen => ?_ | refine gI (by kernel_rfl) ?_ | refine gN rfl ?_ | refine gN (by omega) ?_ | refine gJ rfl ?_ | refine gK (by omega) ?_ | refine gL (by omega) ?_ | refine gK rfl ?_ | refine gO ?_); conv => whnf))
      refine boolRes_split (fun hb => ?_) (fun hb => ?_) <;> conv => whnf
      · have hp : properB c.version x = false := by simp [properB, restB]; omega
        rw [hp] at hok
        repeat (first | refine gA ?_ | refine gB ?_ | refine gC rfl ?_ | refine gD rfl ?_ | ((first | refine gE env hN (by kernel_rfl) ?_ | refine gF ?_ | refine gG ?_ | refine gH fun hlen => ?_ | refine gI (by kernel_rfl) ?_ | refine gN rfl ?_ | refine gN (by omega) ?_ | refine gJ rfl ?_ | refine gK (by omega) ?_ | refine gL (by omega) ?_ | refine gK rfl ?_ | refine gO ?_ | refine gM ?_); conv => whnf))
        exact ret0 rfl (congrArg V.bool (by rw [hok]; rfl)) rfl
      repeat (first | refine gA ?_ | refine gB ?_ | refine gC rfl ?_ | refine gD rfl ?_ | ((first | refine gE env hN (by kernel_rfl) ?_ | refine gF ?_ | refine gG ?_ | refine gH fun hlen => ?_ | refine gI (by kernel_rfl) ?_ | refine gN rfl ?_ | refine gN (by omega) ?_ | refine gJ rfl ?_ | refine gK (by omega) ?_ | refine gL (by omega) ?_ | refine gK rfl ?_ | refine gO ?_); conv => whnf))
      refine boolRes_split (fun hb => ?_) (fun hb => ?_) <;> conv => whnf
      · have hp : properB c.version x = false := by simp [properB, restB]; omega
        rw [hp] at hok
        repeat (first | refine gA ?_ | refine gB ?_ | refine gC rfl ?_ | refine gD rfl ?_ | ((first | refine gE env hN (by kernel_rfl) ?_ | refine gF ?_ | refine gG ?_ | refine gH fun hlen => ?_ | refine gI (by kernel_rfl) ?_ | refine gN rfl ?_ | refine gN (by omega) ?_ | refine gJ rfl ?_ | refine gK (by omega) ?_ | refine gL (by omega) ?_ | refine gK rfl ?_ | refine gO ?_ | refine gM ?_); conv => whnf))
        exact ret0 rfl (congrArg V.bool (by rw [hok]; rfl)) rfl
      repeat (first | refine gA ?_ | refine gB ?_ | refine gC rfl ?_ | refine gD rfl ?_ | ((first | refine gE env hN (by kernel_rfl) ?_ | refine gF ?_ | refine gG ?_ | refine gH fun hlen => ?_ | refine gI (by kernel_rfl) ?_ | refine gN rfl ?_ | refine gN (by omega) ?_ | refine gJ rfl ?_ | refine gK (by omega) ?_ | refine gL (by omega) ?_ | refine gK rfl ?_ | refine gO ?_); conv => whnf))
      refine boolRes_split (fun hb => ?_) (fun hb => ?_) <;> conv => whnf
      · have hp : properB c.version x = false := by simp [properB, restB]; omega
        rw [hp] at hok
        repeat (first | refine gA ?_ | refine gB ?_ | refine gC rfl ?_ | refine gD rfl ?_ | ((first | refine gE env hN (by kernel_rfl) ?_ | refine gF ?_ | refine gG ?_ | refine gH fun hlen => ?_ | refine gI (by kernel_rfl) ?_ | refine gN rfl ?_ | refine gN (by omega) ?_ | refine gJ rfl ?_ | refine gK (by omega) ?_ | refine gL (by omega) ?_ | refine gK rfl ?_ | refine gO ?_ | refine gM ?_); conv => whnf))
        exact ret0 rfl (congrArg V.bool (by rw [hok]; rfl)) rfl
      repeat (first | refine gA ?_ | refine gB ?_ | refine gC rfl ?_ | refine gD rfl ?_ | ((first | refine gE env hN (by kernel_rfl) ?_ | refine gF ?_ | refine gG ?_ | refine gH fun hlen => ?_ | refine gI (by kernel_rfl) ?_ | refine gN rfl ?_ | refine gN (by omega) ?_ | refine gJ rfl ?_ | refine gK (by omega) ?_ | refine gL (by omega) ?_ | refine gK rfl ?_ | refine gO ?_); conv => whnf))
      refine boolRes_split (fun hb => ?_) (fun hb => ?_) <;> conv => whnf
      · repeat (first | refine gA ?_ | refine gB ?_ | refine gC rfl ?_ | refine gD rfl ?_ | ((first | refine gE env hN (by kernel_rfl) ?_ | refine gF ?_ | refine gG ?_ | refine gH fun hlen => ?_ | refine gI (by kernel_rfl) ?_ | refine gN rfl ?_ | refine gN (by omega) ?_ | refine gJ rfl ?_ | refine gK (by omega) ?_ | refine gL (by omega) ?_ | refine gK rfl ?_ | refine gO ?_); conv => whnf))
        refine boolRes_split (fun hb => ?_) (fun hb => ?_) <;> conv => whnf
        · have hp : properB c.version x = false := by simp [properB, restB]; omega
          rw [hp] at hok
          repeat (first | refine gA ?_ | refine gB ?_ | refine gC rfl ?_ | refine gD rfl ?_ | ((first | refine gE env hN (by kernel_rfl) ?_ | refine gF ?_ | refine gG ?_ | refine gH fun hlen => ?_ | refine gI (by kernel_rfl) ?_ | refine gN rfl ?_ | refine gN (by omega) ?_ | refine gJ rfl ?_ | refine gK (by omega) ?_ | refine gL (by omega) ?_ | refine gK rfl ?_ | refine gO ?_ | refine gM ?_); conv => whnf))
          exact ret0 rfl (congrArg V.bool (by rw [hok]; rfl)) rfl
        repeat (first | refine gA ?_ | refine gB ?_ | refine gC rfl ?_ | refine gD rfl ?_ | ((first | refine gE env hN (by kernel_rfl) ?_ | refine gF ?_ | refine gG ?_ | refine gH fun hlen => ?_ | refine gI (by kernel_rfl) ?_ | refine gN rfl ?_ | refine gN (by omega) ?_ | refine gJ rfl ?_ | refine gK (by omega) ?_ | refine gL (by omega) ?_ | refine gK rfl ?_ | refine gO ?_); conv => whnf))
        refine boolRes_split (fun hb => ?_) (fun hb => ?_) <;> conv => whnf
        · have hp : properB c.version x = false := by simp [properB, restB]; omega
          rw [hp] at hok
          repeat (first | refine gA ?_ | refine gB ?_ | refine gC rfl ?_ | refine gD rfl ?_ | ((first | refine gE env hN (by kernel_rfl) ?_ | refine gF ?_ | refine gG ?_ | refine gH fun hlen => ?_ | refine gI (by kernel_rfl) ?_ | refine gN rfl ?_ | refine gN (by omega) ?_ | refine gJ rfl ?_ | refine gK (by omega) ?_ | refine gL (by omega) ?_ | refine gK rfl ?_ | refine gO ?_ | refine gM ?_); conv => whnf))
          exact ret0 rfl (congrArg V.bool (by rw [hok]; rfl)) rfl
        have hp : properB c.version x = true := by simp [properB, restB, h1]; omega
        rw [hp] at hok
        repeat (first | refine gA ?_ | refine gB ?_ | refine gC rfl ?_ | refine gD rfl ?_ | ((first | refine gE env hN (by kernel_rfl) ?_ | refine gF ?_ | refine gG ?_ | refine gH fun hlen => ?_ | refine gI (by kernel_rfl) ?_ | refine gN rfl ?_ | refine gN (by omega) ?_ | refine gJ rfl ?_ | refine gK (by omega) ?_ | refine gL (by omega) ?_ | refine gK rfl ?_ | refine gO ?_); conv => whnf))
        refine ⟨itemRows_sz _, ?_⟩
        conv => whnf
        repeat (first | refine gA ?_ | refine gB ?_ | refine gC rfl ?_ | refine gD rfl ?_ | ((first | refine gE env hN (by kernel_rfl) ?_ | refine gF ?_ | refine gG ?_ | refine gH fun hlen => ?_ | refine gI (by kernel_rfl) ?_ | refine gN rfl ?_ | refine gN (by omega) ?_ | refine gJ rfl ?_ | refine gK (by omega) ?_ | refine gL (by omega) ?_ | refine gK rfl ?_ | refine gO ?_); conv => whnf))
        generalize hD : c.items.take k = D at *
        refine W.loopG (fun n st => ∃ j : Nat, j ≤ D.length ∧ D.any (clashB x) = (D.drop j).any (clashB x) ∧ n = D.length - j ∧ st = ⟨[(1, .bp 1 0), (4, .bp 4 0), (29, .sl (itemRows c.items) false), (30, .int .i64 (itemRows c.items).length), (31, .int .i64 k), (80, .sl ((itemRows c.items).take k) false), (81, .int .i64 ((itemRows c.items).take k).length), (82, .int .i64 j)], [(1, [.rows 3 [c.row] none]), (4, [.rows 5 [x.row] none])], [1, 4]⟩)
          D.length _ ⟨0, by omega, by simp, by omega, rfl⟩ ⟨[(1, 1), (4, 4)], [], [], LeG.mk' rfl rfl rfl (by repeat' (first | exact trivial | exact ⟨_, .refl _, rfl⟩ | apply And.intro)) (.cons 1 rfl rfl (.refl _) rfl (.cons 4 rfl rfl (.refl _) rfl .nil)) rfl rfl (by rw [hK]; rfl)⟩ ?_
        rintro n st ⟨j, hj, hany, rfl, rfl⟩
        rw [← e2] at hpl
        repeat (first | refine gA ?_ | refine gB ?_ | refine gC rfl ?_ | refine gD rfl ?_ | ((first | refine gE env hN (by kernel_rfl) ?_ | refine gF ?_ | refine gG ?_ | refine gH fun hlen => ?_ | refine gI (by kernel_rfl) ?_ | refine gN rfl ?_ | refine gN (by omega) ?_ | refine gJ rfl ?_ | refine gK (by omega) ?_ | refine gL (by omega) ?_ | refine gK rfl ?_ | refine gO ?_); conv => whnf))
        refine boolRes_split (fun hb => ?_) (fun hb => ?_) <;> conv => whnf
        · have hltj : j < D.length := by omega
          have hy : ((itemRows c.items).take k)[j]? = some D[j].row := by rw [e2]; exact itemRows_get hltj
          rw [List.drop_eq_getElem_cons hltj, List.any_cons] at hany
          generalize D[j] = y at *
          repeat (first | refine gA ?_ | refine gB ?_ | refine gC rfl ?_ | refine gD rfl ?_ | ((first | refine gE env hN (by kernel_rfl) ?_ | refine gF ?_ | refine gG ?_ | refine gH fun hlen => ?_ | refine gI (by kernel_rfl) ?_ | refine gN rfl ?_ | refine gN (by omega) ?_ | refine gJ rfl ?_ | refine gK (by omega) ?_ | refine gL (by omega) ?_ | refine gK rfl ?_ | refine gO ?_); conv => whnf))
          refine rowAt_of hy ?_
          conv => whnf
          (
          (repeat (first | refine gA ?_ | refine gB ?_ | refine gC rfl ?_ | refine gD rfl ?_ | ((first | refine gE env hN (by kernel_rfl) ?_ | refine gF ?_ | refine gG ?_ | refine gH fun hlen => ?_ | refine gI (by kernel_rfl) ?_ | refine gN rfl ?_ | refine gN (by omega) ?_ | refine gJ rfl ?_ | refine gK (by omega) ?_ | refine gL (by omega) ?_ | refine gK rfl ?_ | refine gO ?_); conv => whnf)))
          first
            | (
              have hcl : clashB x y = true := by simp [clashB, overB]; omega
              rw [hcl] at hany
              repeat (first | refine gA ?_ | refine gB ?_ | refine gC rfl ?_ | refine gD rfl ?_ | ((first | refine gE env hN (by kernel_rfl) ?_ | refine gF ?_ | refine gG ?_ | refine gH fun hlen => ?_ | refine gI (by kernel_rfl) ?_ | refine gN rfl ?_ | refine gN (by omega) ?_ | refine gJ rfl ?_ | refine gK (by omega) ?_ | refine gL (by omega) ?_ | refine gK rfl ?_ | refine gO ?_ | refine gM ?_); conv => whnf))
              exact ret0 rfl (congrArg V.bool (by rw [hok, hany]; rfl)) rfl
              done)
            | (
              have hcl : clashB x y = false := by simp [clashB, overB]; omega
              rw [hcl] at hany
              refine ⟨_, _, ?_, ⟨j + 1, by omega, by rw [hany]; rfl, rfl, rfl⟩, ⟨[(1, 1), (4, 4)], [], [], LeG.mk' rfl rfl rfl (by repeat' (first | exact trivial | exact ⟨_, .refl _, rfl⟩ | apply And.intro)) (.cons 1 rfl rfl (.refl _) rfl (.cons 4 rfl rfl (.refl _) rfl .nil)) rfl rfl (by rw [hK]; rfl)⟩⟩
              omega
              done)
            | ((refine boolRes_split (fun hb => ?_) (fun hb => ?_) <;> conv => whnf) <;> (
          (repeat (first | refine gA ?_ | refine gB ?_ | refine gC rfl ?_ | refine gD rfl ?_ | ((first | refine gE env hN (by kernel_rfl) ?_ | refine gF ?_ | refine gG ?_ | refine gH fun hlen => ?_ | refine gI (by kernel_rfl) ?_ | refine gN rfl ?_ | refine gN (by omega) ?_ | refine gJ rfl ?_ | refine gK (by omega) ?_ | refine gL (by omega) ?_ | refine gK rfl ?_ | refine gO ?_); conv => whnf)))
          first
            | (
              have hcl : clashB x y = true := by simp [clashB, overB]; omega
              rw [hcl] at hany
              repeat (first | refine gA ?_ | refine gB ?_ | refine gC rfl ?_ | refine gD rfl ?_ | ((first | refine gE env hN (by kernel_rfl) ?_ | refine gF ?_ | refine gG ?_ | refine gH fun hlen => ?_ | refine gI (by kernel_rfl) ?_ | refine gN rfl ?_ | refine gN (by omega) ?_ | refine gJ rfl ?_ | refine gK (by omega) ?_ | refine gL (by omega) ?_ | refine gK rfl ?_ | refine gO ?_ | refine gM ?_); conv => whnf))
              exact ret0 rfl (congrArg V.bool (by rw [hok, hany]; rfl)) rfl
              done)
            | (
              have hcl : clashB x y = false := by simp [clashB, overB]; omega
              rw [hcl] at hany
              refine ⟨_, _, ?_, ⟨j + 1, by omega, by rw [hany]; rfl, rfl, rfl⟩, ⟨[(1, 1), (4, 4)], [], [], LeG.mk' rfl rfl rfl (by repeat' (first | exact trivial | exact ⟨_, .refl _, rfl⟩ | apply And.intro)) (.cons 1 rfl rfl (.refl _) rfl (.cons 4 rfl rfl (.refl _) rfl .nil)) rfl rfl (by rw [hK]; rfl)⟩⟩
              omega
              done)
            | ((refine boolRes_split (fun hb => ?_) (fun hb => ?_) <;> conv => whnf) <;> (
          (repeat (first | refine gA ?_ | refine gB ?_ | refine gC rfl ?_ | refine gD rfl ?_ | ((first | refine gE env hN (by kernel_rfl) ?_ | refine gF ?_ | refine gG ?_ | refine gH fun hlen => ?_ | refine gI (by kernel_rfl) ?_ | refine gN rfl ?_ | refine gN (by omega) ?_ | refine gJ rfl ?_ | refine gK (by omega) ?_ | refine gL (by omega) ?_ | refine gK rfl ?_ | refine gO ?_); conv => whnf)))
          first
            | (
              have hcl : clashB x y = true := by simp [clashB, overB]; omega
              rw [hcl] at hany
              repeat (first | refine gA ?_ | refine gB ?_ | refine gC rfl ?_ | refine gD rfl ?_ | ((first | refine gE env hN (by kernel_rfl) ?_ | refine gF ?_ | refine gG ?_ | refine gH fun hlen => ?_ | refine gI (by kernel_rfl) ?_ | refine gN rfl ?_ | refine gN (by omega) ?_ | refine gJ rfl ?_ | refine gK (by omega) ?_ | refine gL (by omega) ?_ | refine gK rfl ?_ | refine gO ?_ | refine gM ?_); conv => whnf))
              exact ret0 rfl (congrArg V.bool (by rw [hok, hany]; rfl)) rfl
              done)
            | (
              have hcl : clashB x y = false := by simp [clashB, overB]; omega
              rw [hcl] at hany
              refine ⟨_, _, ?_, ⟨j + 1, by omega, by rw [hany]; rfl, rfl, rfl⟩, ⟨[(1, 1), (4, 4)], [], [], LeG.mk' rfl rfl rfl (by repeat' (first | exact trivial | exact ⟨_, .refl _, rfl⟩ | apply And.intro)) (.cons 1 rfl rfl (.refl _) rfl (.cons 4 rfl rfl (.refl _) rfl .nil)) rfl rfl (by rw [hK]; rfl)⟩⟩
              omega
              done)
            | ((refine boolRes_split (fun hb => ?_) (fun hb => ?_) <;> conv => whnf) <;> (
          (repeat (first | refine gA ?_ | refine gB ?_ | refine gC rfl ?_ | refine gD rfl ?_ | ((first | refine gE env hN (by kernel_rfl) ?_ | refine gF ?_ | refine gG ?_ | refine gH fun hlen => ?_ | refine gI (by kernel_rfl) ?_ | refine gN rfl ?_ | refine gN (by omega) ?_ | refine gJ rfl ?_ | refine gK (by omega) ?_ | refine gL (by omega) ?_ | refine gK rfl ?_ | refine gO ?_); conv => whnf)))
          first
            | (
              have hcl : clashB x y = true := by simp [clashB, overB]; omega
              rw [hcl] at hany
              repeat (first | refine gA ?_ | refine gB ?_ | refine gC rfl ?_ | refine gD rfl ?_ | ((first | refine gE env hN (by kernel_rfl) ?_ | refine gF ?_ | refine gG ?_ | refine gH fun hlen => ?_ | refine gI (by kernel_rfl) ?_ | refine gN rfl ?_ | refine gN (by omega) ?_ | refine gJ rfl ?_ | refine gK (by omega) ?_ | refine gL (by omega) ?_ | refine gK rfl ?_ | refine gO ?_ | refine gM ?_); conv => whnf))
              exact ret0 rfl (congrArg V.bool (by rw [hok, hany]; rfl)) rfl
              done)
            | (
              have hcl : clashB x y = false := by simp [clashB, overB]; omega
              rw [hcl] at hany
              refine ⟨_, _, ?_, ⟨j + 1, by omega, by rw [hany]; rfl, rfl, rfl⟩, ⟨[(1, 1), (4, 4)], [], [], LeG.mk' rfl rfl rfl (by repeat' (first | exact trivial | exact ⟨_, .refl _, rfl⟩ | apply And.intro)) (.cons 1 rfl rfl (.refl _) rfl (.cons 4 rfl rfl (.refl _) rfl .nil)) rfl rfl (by rw [hK]; rfl)⟩⟩
              omega
              done)
            | ((refine boolRes_split (fun hb => ?_) (fun hb => ?_) <;> conv => whnf) <;> (
          (repeat (first | refine gA ?_ | refine gB ?_ | refine gC rfl ?_ | refine gD rfl ?_ | ((first | refine gE env hN (by kernel_rfl) ?_ | refine gF ?_ | refine gG ?_ | refine gH fun hlen => ?_ | refine gI (by kernel_rfl) ?_ | refine gN rfl ?_ | refine gN (by omega) ?_ | refine gJ rfl ?_ | refine gK (by omega) ?_ | refine gL (by omega) ?_ | refine gK rfl ?_ | refine gO ?_); conv => whnf)))
          first
            | (
              have hcl : clashB x y = true := by simp [clashB, overB]; omega
              rw [hcl] at hany
              repeat (first | refine gA ?_ | refine gB ?_ | refine gC rfl ?_ | refine gD rfl ?_ | ((first | refine gE env hN (by kernel_rfl) ?_ | refine gF ?_ | refine gG ?_ | refine gH fun hlen => ?_ | refine gI (by kernel_rfl) ?_ | refine gN rfl ?_ | refine gN (by omega) ?_ | refine gJ rfl ?_ | refine gK (by omega) ?_ | refine gL (by omega) ?_ | refine gK rfl ?_ | refine gO ?_ | refine gM ?_); conv => whnf))
              exact ret0 rfl (congrArg V.bool (by rw [hok, hany]; rfl)) rfl
              done)
            | (
              have hcl : clashB x y = false := by simp [clashB, overB]; omega
              rw [hcl] at hany
              refine ⟨_, _, ?_, ⟨j + 1, by omega, by rw [hany]; rfl, rfl, rfl⟩, ⟨[(1, 1), (4, 4)], [], [], LeG.mk' rfl rfl rfl (by repeat' (first | exact trivial | exact ⟨_, .refl _, rfl⟩ | apply And.intro)) (.cons 1 rfl rfl (.refl _) rfl (.cons 4 rfl rfl (.refl _) rfl .nil)) rfl rfl (by rw [hK]; rfl)⟩⟩
              omega
              done)
            | ((refine boolRes_split (fun hb => ?_) (fun hb => ?_) <;> conv => whnf) <;> (
          (repeat (first | refine gA ?_ | refine gB ?_ | refine gC rfl ?_ | refine gD rfl ?_ | ((first | refine gE env hN (by kernel_rfl) ?_ | refine gF ?_ | refine gG ?_ | refine gH fun hlen => ?_ | refine gI (by kernel_rfl) ?_ | refine gN rfl ?_ | refine gN (by omega) ?_ | refine gJ rfl ?_ | refine gK (by omega) ?_ | refine gL (by omega) ?_ | refine gK rfl ?_ | refine gO ?_); conv => whnf)))
          first
            | (
              have hcl : clashB x y = true := by simp [clashB, overB]; omega
              rw [hcl] at hany
              repeat (first | refine gA ?_ | refine gB ?_ | refine gC rfl ?_ | refine gD rfl ?_ | ((first | refine gE env hN (by kernel_rfl) ?_ | refine gF ?_ | refine gG ?_ | refine gH fun hlen => ?_ | refine gI (by kernel_rfl) ?_ | refine gN rfl ?_ | refine gN (by omega) ?_ | refine gJ rfl ?_ | refine gK (by omega) ?_ | refine gL (by omega) ?_ | refine gK rfl ?_ | refine gO ?_ | refine gM ?_); conv => whnf))
              exact ret0 rfl (congrArg V.bool (by rw [hok, hany]; rfl)) rfl
              done)
            | (
              have hcl : clashB x y = false := by simp [clashB, overB]; omega
              rw [hcl] at hany
              refine ⟨_, _, ?_, ⟨j + 1, by omega, by rw [hany]; rfl, rfl, rfl⟩, ⟨[(1, 1), (4, 4)], [], [], LeG.mk' rfl rfl rfl (by repeat' (first | exact trivial | exact ⟨_, .refl _, rfl⟩ | apply And.intro)) (.cons 1 rfl rfl (.refl _) rfl (.cons 4 rfl rfl (.refl _) rfl .nil)) rfl rfl (by rw [hK]; rfl)⟩⟩
              omega
              done)
            | ((refine boolRes_split (fun hb => ?_) (fun hb => ?_) <;> conv => whnf) <;> (
          (repeat (first | refine gA ?_ | refine gB ?_ | refine gC rfl ?_ | refine gD rfl ?_ | ((first | refine gE env hN (by kernel_rfl) ?_ | refine gF ?_ | refine gG ?_ | refine gH fun hlen => ?_ | refine gI (by kernel_rfl) ?_ | refine gN rfl ?_ | refine gN (by omega) ?_ | refine gJ rfl ?_ | refine gK (by omega) ?_ | refine gL (by omega) ?_ | refine gK rfl ?_ | refine gO ?_); conv => whnf)))
          first
            | (
              have hcl : clashB x y = true := by simp [clashB, overB]; omega
              rw [hcl] at hany
              repeat (first | refine gA ?_ | refine gB ?_ | refine gC rfl ?_ | refine gD rfl ?_ | ((first | refine gE env hN (by kernel_rfl) ?_ | refine gF ?_ | refine gG ?_ | refine gH fun hlen => ?_ | refine gI (by kernel_rfl) ?_ | refine gN rfl ?_ | refine gN (by omega) ?_ | refine gJ rfl ?_ | refine gK (by omega) ?_ | refine gL (by omega) ?_ | refine gK rfl ?_ | refine gO ?_ | refine gM ?_); conv => whnf))
              exact ret0 rfl (congrArg V.bool (by rw [hok, hany]; rfl)) rfl
              done)
            | (
              have hcl : clashB x y = false := by simp [clashB, overB]; omega
              rw [hcl] at hany
              refine ⟨_, _, ?_, ⟨j + 1, by omega, by rw [hany]; rfl, rfl, rfl⟩, ⟨[(1, 1), (4, 4)], [], [], LeG.mk' rfl rfl rfl (by repeat' (first | exact trivial | exact ⟨_, .refl _, rfl⟩ | apply And.intro)) (.cons 1 rfl rfl (.refl _) rfl (.cons 4 rfl rfl (.refl _) rfl .nil)) rfl rfl (by rw [hK]; rfl)⟩⟩
              omega
              done)
            | ((refine boolRes_split (fun hb => ?_) (fun hb => ?_) <;> conv => whnf) <;> (
          (repeat (first | refine gA ?_ | refine gB ?_ | refine gC rfl ?_ | refine gD rfl ?_ | ((first | refine gE env hN (by kernel_rfl) ?_ | refine gF ?_ | refine gG ?_ | refine gH fun hlen => ?_ | refine gI (by kernel_rfl) ?_ | refine gN rfl ?_ | refine gN (by omega) ?_ | refine gJ rfl ?_ | refine gK (by omega) ?_ | refine gL (by omega) ?_ | refine gK rfl ?_ | refine gO ?_); conv => whnf)))
          first
            | (
              have hcl : clashB x y = true := by simp [clashB, overB]; omega
              rw [hcl] at hany
              repeat (first | refine gA ?_ | refine gB ?_ | refine gC rfl ?_ | refine gD rfl ?_ | ((first | refine gE env hN (by kernel_rfl) ?_ | refine gF ?_ | refine gG ?_ | refine gH fun hlen => ?_ | refine gI (by kernel_rfl) ?_ | refine gN rfl ?_ | refine gN (by omega) ?_ | refine gJ rfl ?_ | refine gK (by omega) ?_ | refine gL (by omega) ?_ | refine gK rfl ?_ | refine gO ?_ | refine gM ?_); conv => whnf))
              exact ret0 rfl (congrArg V.bool (by rw [hok, hany]; rfl)) rfl
              done)
            | (
              have hcl : clashB x y = false := by simp [clashB, overB]; omega
              rw [hcl] at hany
              refine ⟨_, _, ?_, ⟨j + 1, by omega, by rw [hany]; rfl, rfl, rfl⟩, ⟨[(1, 1), (4, 4)], [], [], LeG.mk' rfl rfl rfl (by repeat' (first | exact trivial | exact ⟨_, .refl _, rfl⟩ | apply And.intro)) (.cons 1 rfl rfl (.refl _) rfl (.cons 4 rfl rfl (.refl _) rfl .nil)) rfl rfl (by rw [hK]; rfl)⟩⟩
              omega
              done)
            | ((refine boolRes_split (fun hb => ?_) (fun hb => ?_) <;> conv => whnf) <;> (
          (repeat (first | refine gA ?_ | refine gB ?_ | refine gC rfl ?_ | refine gD rfl ?_ | ((first | refine gE env hN (by kernel_rfl) ?_ | refine gF ?_ | refine gG ?_ | refine gH fun hlen => ?_ | refine gI (by kernel_rfl) ?_ | refine gN rfl ?_ | refine gN (by omega) ?_ | refine gJ rfl ?_ | refine gK (by omega) ?_ | refine gL (by omega) ?_ | refine gK rfl ?_ | refine gO ?_); conv => whnf)))
          first
            | (
              have hcl : clashB x y = true := by simp [clashB, overB]; omega
              rw [hcl] at hany
              repeat (first | refine gA ?_ | refine gB ?_ | refine gC rfl ?_ | refine gD rfl ?_ | ((first | refine gE env hN (by kernel_rfl) ?_ | refine gF ?_ | refine gG ?_ | refine gH fun hlen => ?_ | refine gI (by kernel_rfl) ?_ | refine gN rfl ?_ | refine gN (by omega) ?_ | refine gJ rfl ?_ | refine gK (by omega) ?_ | refine gL (by omega) ?_ | refine gK rfl ?_ | refine gO ?_ | refine gM ?_); conv => whnf))
              exact ret0 rfl (congrArg V.bool (by rw [hok, hany]; rfl)) rfl
              done)
            | (
              have hcl : clashB x y = false := by simp [clashB, overB]; omega
              rw [hcl] at hany
              refine ⟨_, _, ?_, ⟨j + 1, by omega, by rw [hany]; rfl, rfl, rfl⟩, ⟨[(1, 1), (4, 4)], [], [], LeG.mk' rfl rfl rfl (by repeat' (first | exact trivial | exact ⟨_, .refl _, rfl⟩ | apply And.intro)) (.cons 1 rfl rfl (.refl _) rfl (.cons 4 rfl rfl (.refl _) rfl .nil)) rfl rfl (by rw [hK]; rfl)⟩⟩
              omega
              done)
            | ((refine boolRes_split (fun hb => ?_) (fun hb => ?_) <;> conv => whnf) <;> fail))))))))))))))))))
        · have hje : j = D.length := by omega
          rw [hje, List.drop_length] at hany
          rw [hany] at hok
          repeat (first | refine gA ?_ | refine gB ?_ | refine gC rfl ?_ | refine gD rfl ?_ | ((first | refine gE env hN (by kernel_rfl) ?_ | refine gF ?_ | refine gG ?_ | refine gH fun hlen => ?_ | refine gI (by kernel_rfl) ?_ | refine gN rfl ?_ | refine gN (by omega) ?_ | refine gJ rfl ?_ | refine gK (by omega) ?_ | refine gL (by omega) ?_ | refine gK rfl ?_ | refine gO ?_); conv => whnf))
          refine ⟨_, _, ?_, ⟨k + 1, by omega, by rw [hok]; rfl, rfl, rfl⟩, ⟨[(1, 1)], [], [], LeG.mk' rfl rfl rfl (by repeat' (first | exact trivial | exact ⟨_, .refl _, rfl⟩ | apply And.intro)) (.cons 1 rfl rfl (.refl _) rfl .nil) rfl rfl (by rw [hK]; rfl)⟩⟩
          omega
      · skip
        have hp : properB c.version x = true := by simp [properB, restB, h1]; omega
        rw [hp] at hok
        repeat (first | refine gA ?_ | refine gB ?_ | refine gC rfl ?_ | refine gD rfl ?_ | ((first | refine gE env hN (by kernel_rfl) ?_ | refine gF ?_ | refine gG ?_ | refine gH fun hlen => ?_ | refine gI (by kernel_rfl) ?_ | refine gN rfl ?_ | refine gN (by omega) ?_ | refine gJ rfl ?_ | refine gK (by omega) ?_ | refine gL (by omega) ?_ | refine gK rfl ?_ | refine gO ?_); conv => whnf))
        refine ⟨itemRows_sz _, ?_⟩
        conv => whnf
        repeat (first | refine gA ?_ | refine gB ?_ | refine gC rfl ?_ | refine gD rfl ?_ | ((first | refine gE env hN (by kernel_rfl) ?_ | refine gF ?_ | refine gG ?_ | refine gH fun hlen => ?_ | refine gI (by kernel_rfl) ?_ | refine gN rfl ?_ | refine gN (by omega) ?_ | refine gJ rfl ?_ | refine gK (by omega) ?_ | refine gL (by omega) ?_ | refine gK rfl ?_ | refine gO ?_); conv => whnf))
        generalize hD : c.items.take k = D at *
        refine W.loopG (fun n st => ∃ j : Nat, j ≤ D.length ∧ D.any (clashB x) = (D.drop j).any (clashB x) ∧ n = D.length - j ∧ st = ⟨[(1, .bp 1 0), (4, .bp 4 0), (29, .sl (itemRows c.items) false), (30, .int .i64 (itemRows c.items).length), (31, .int .i64 k), (80, .sl ((itemRows c.items).take k) false), (81, .int .i64 ((itemRows c.items).take k).length), (82, .int .i64 j)], [(1, [.rows 3 [c.row] none]), (4, [.rows 5 [x.row] none])], [1, 4]⟩)
          D.length _ ⟨0, by omega, by simp, by omega, rfl⟩ ⟨[(1, 1), (4, 4)], [], [], LeG.mk' rfl rfl rfl (by repeat' (first | exact trivial | exact ⟨_, .refl _, rfl⟩ | apply And.intro)) (.cons 1 rfl rfl (.refl _) rfl (.cons 4 rfl rfl (.refl _) rfl .nil)) rfl rfl (by rw [hK]; rfl)⟩ ?_
        rintro n st ⟨j, hj, hany, rfl, rfl⟩
        rw [← e2] at hpl
        repeat (first | refine gA ?_ | refine gB ?_ | refine gC rfl ?_ | refine gD rfl ?_ | ((first | refine gE env hN (by kernel_rfl) ?_ | refine gF ?_ | refine gG ?_ | refine gH fun hlen => ?_ | refine gI (by kernel_rfl) ?_ | refine gN rfl ?_ | refine gN (by omega) ?_ | refine gJ rfl ?_ | refine gK (by omega) ?_ | refine gL (by omega) ?_ | refine gK rfl ?_ | refine gO ?_); conv => whnf))
        refine boolRes_split (fun hb => ?_) (fun hb => ?_) <;> conv => whnf
        · have hltj : j < D.length := by omega
          have hy : ((itemRows c.items).take k)[j]? = some D[j].row := by rw [e2]; exact itemRows_get hltj
          rw [List.drop_eq_getElem_cons hltj, List.any_cons] at hany
          generalize D[j] = y at *
          repeat (first | refine gA ?_ | refine gB ?_ | refine gC rfl ?_ | refine gD rfl ?_ | ((first | refine gE env hN (by kernel_rfl) ?_ | refine gF ?_ | refine gG ?_ | refine gH fun hlen => ?_ | refine gI (by kernel_rfl) ?_ | refine gN rfl ?_ | refine gN (by omega) ?_ | refine gJ rfl ?_ | refine gK (by omega) ?_ | refine gL (by omega) ?_ | refine gK rfl ?_ | refine gO ?_); conv => whnf))
          refine rowAt_of hy ?_
          conv => whnf
          (
          (repeat (first | refine gA ?_ | refine gB ?_ | refine gC rfl ?_ | refine gD rfl ?_ | ((first | refine gE env hN (by kernel_rfl) ?_ | refine gF ?_ | refine gG ?_ | refine gH fun hlen => ?_ | refine gI (by kernel_rfl) ?_ | refine gN rfl ?_ | refine gN (by omega) ?_ | refine gJ rfl ?_ | refine gK (by omega) ?_ | refine gL (by omega) ?_ | refine gK rfl ?_ | refine gO ?_); conv => whnf)))
          first
            | (
              have hcl : clashB x y = true := by simp [clashB, overB]; omega
              rw [hcl] at hany
              repeat (first | refine gA ?_ | refine gB ?_ | refine gC rfl ?_ | refine gD rfl ?_ | ((first | refine gE env hN (by kernel_rfl) ?_ | refine gF ?_ | refine gG ?_ | refine gH fun hlen => ?_ | refine gI (by kernel_rfl) ?_ | refine gN rfl ?_ | refine gN (by omega) ?_ | refine gJ rfl ?_ | refine gK (by omega) ?_ | refine gL (by omega) ?_ | refine gK rfl ?_ | refine gO ?_ | refine gM ?_); conv => whnf))
              exact ret0 rfl (congrArg V.bool (by rw [hok, hany]; rfl)) rfl
              done)
            | (
              have hcl : clashB x y = false := by simp [clashB, overB]; omega
              rw [hcl] at hany
              refine ⟨_, _, ?_, ⟨j + 1, by omega, by rw [hany]; rfl, rfl, rfl⟩, ⟨[(1, 1), (4, 4)], [], [], LeG.mk' rfl rfl rfl (by repeat' (first | exact trivial | exact ⟨_, .refl _, rfl⟩ | apply And.intro)) (.cons 1 rfl rfl (.refl _) rfl (.cons 4 rfl rfl (.refl _) rfl .nil)) rfl rfl (by rw [hK]; rfl)⟩⟩
              omega
              done)
            | ((refine boolRes_split (fun hb => ?_) (fun hb => ?_) <;> conv => whnf) <;> (
          (repeat (first | refine gA ?_ | refine gB ?_ | refine gC rfl ?_ | refine gD rfl ?_ | ((first | refine gE env hN (by kernel_rfl) ?_ | refine gF ?_ | refine gG ?_ | refine gH fun hlen => ?_ | refine gI (by kernel_rfl) ?_ | refine gN rfl ?_ | refine gN (by omega) ?_ | refine gJ rfl ?_ | refine gK (by omega) ?_ | refine gL (by omega) ?_ | refine gK rfl ?_ | refine gO ?_); conv => whnf)))
          first
            | (
              have hcl : clashB x y = true := by simp [clashB, overB]; omega
              rw [hcl] at hany
              repeat (first | refine gA ?_ | refine gB ?_ | refine gC rfl ?_ | refine gD rfl ?_ | ((first | refine gE env hN (by kernel_rfl) ?_ | refine gF ?_ | refine gG ?_ | refine gH fun hlen => ?_ | refine gI (by kernel_rfl) ?_ | refine gN rfl ?_ | refine gN (by omega) ?_ | refine gJ rfl ?_ | refine gK (by omega) ?_ | refine gL (by omega) ?_ | refine gK rfl ?_ | refine gO ?_ | refine gM ?_); conv => whnf))
              exact ret0 rfl (congrArg V.bool (by rw [hok, hany]; rfl)) rfl
              done)
            | (
              have hcl : clashB x y = false := by simp [clashB, overB]; omega
              rw [hcl] at hany
              refine ⟨_, _, ?_, ⟨j + 1, by omega, by rw [hany]; rfl, rfl, rfl⟩, ⟨[(1, 1), (4, 4)], [], [], LeG.mk' rfl rfl rfl (by repeat' (first | exact trivial | exact ⟨_, .refl _, rfl⟩ | apply And.intro)) (.cons 1 rfl rfl (.refl _) rfl (.cons 4 rfl rfl (.refl _) rfl .nil)) rfl rfl (by rw [hK]; rfl)⟩⟩
              omega
              done)
            | ((refine boolRes_split (fun hb => ?_) (fun hb => ?_) <;> conv => whnf) <;> (
          (repeat (first | refine gA ?_ | refine gB ?_ | refine gC rfl ?_ | refine gD rfl ?_ | ((first | refine gE env hN (by kernel_rfl) ?_ | refine gF ?_ | refine gG ?_ | refine gH fun hlen => ?_ | refine gI (by kernel_rfl) ?_ | refine gN rfl ?_ | refine gN (by omega) ?_ | refine gJ rfl ?_ | refine gK (by omega) ?_ | refine gL (by omega) ?_ | refine gK rfl ?_ | refine gO ?_); conv => whnf)))
          first
            | (
              have hcl : clashB x y = true := by simp [clashB, overB]; omega
              rw [hcl] at hany
              repeat (first | refine gA ?_ | refine gB ?_ | refine gC rfl ?_ | refine gD rfl ?_ | ((first | refine gE env hN (by kernel_rfl) ?_ | refine gF ?_ | refine gG ?_ | refine gH fun hlen => ?_ | refine gI (by kernel_rfl) ?_ | refine gN rfl ?_ | refine gN (by omega) ?_ | refine gJ rfl ?_ | refine gK (by omega) ?_ | refine gL (by omega) ?_ | refine gK rfl ?_ | refine gO ?_ | refine gM ?_); conv => whnf))
              exact ret0 rfl (congrArg V.bool (by rw [hok, hany]; rfl)) rfl
              done)
            | (
              have hcl : clashB x y = false := by simp [clashB, overB]; omega
              rw [hcl] at hany
              refine ⟨_, _, ?_, ⟨j + 1, by omega, by rw [hany]; rfl, rfl, rfl⟩, ⟨[(1, 1), (4, 4)], [], [], LeG.mk' rfl rfl rfl (by repeat' (first | exact trivial | exact ⟨_, .refl _, rfl⟩ | apply And.intro)) (.cons 1 rfl rfl (.refl _) rfl (.cons 4 rfl rfl (.refl _) rfl .nil)) rfl rfl (by rw [hK]; rfl)⟩⟩
              omega
              done)
            | ((refine boolRes_split (fun hb => ?_) (fun hb => ?_) <;> conv => whnf) <;> (
          (repeat (first | refine gA ?_ | refine gB ?_ | refine gC rfl ?_ | refine gD rfl ?_ | ((first | refine gE env hN (by kernel_rfl) ?_ | refine gF ?_ | refine gG ?_ | refine gH fun hlen => ?_ | refine gI (by kernel_rfl) ?_ | refine gN rfl ?_ | refine gN (by omega) ?_ | refine gJ rfl ?_ | refine gK (by omega) ?_ | refine gL (by omega) ?_ | refine gK rfl ?_ | refine gO ?_); conv => whnf)))
          first
            | (
              have hcl : clashB x y = true := by simp [clashB, overB]; omega
              rw [hcl] at hany
              repeat (first | refine gA ?_ | refine gB ?_ | refine gC rfl ?_ | refine gD rfl ?_ | ((first | refine gE env hN (by kernel_rfl) ?_ | refine gF ?_ | refine gG ?_ | refine gH fun hlen => ?_ | refine gI (by kernel_rfl) ?_ | refine gN rfl ?_ | refine gN (by omega) ?_ | refine gJ rfl ?_ | refine gK (by omega) ?_ | refine gL (by omega) ?_ | refine gK rfl ?_ | refine gO ?_ | refine gM ?_); conv => whnf))
              exact ret0 rfl (congrArg V.bool (by rw [hok, hany]; rfl)) rfl
              done)
            | (
              have hcl : clashB x y = false := by simp [clashB, overB]; omega
              rw [hcl] at hany
              refine ⟨_, _, ?_, ⟨j + 1, by omega, by rw [hany]; rfl, rfl, rfl⟩, ⟨[(1, 1), (4, 4)], [], [], LeG.mk' rfl rfl rfl (by repeat' (first | exact trivial | exact ⟨_, .refl _, rfl⟩ | apply And.intro)) (.cons 1 rfl rfl (.refl _) rfl (.cons 4 rfl rfl (.refl _) rfl .nil)) rfl rfl (by rw [hK]; rfl)⟩⟩
              omega
              done)
            | ((refine boolRes_split (fun hb => ?_) (fun hb => ?_) <;> conv => whnf) <;> (
          (repeat (first | refine gA ?_ | refine gB ?_ | refine gC rfl ?_ | refine gD rfl ?_ | ((first | refine gE env hN (by kernel_rfl) ?_ | refine gF ?_ | refine gG ?_ | refine gH fun hlen => ?_ | refine gI (by kernel_rfl) ?_ | refine gN rfl ?_ | refine gN (by omega) ?_ | refine gJ rfl ?_ | refine gK (by omega) ?_ | refine gL (by omega) ?_ | refine gK rfl ?_ | refine gO ?_); conv => whnf)))
          first
            | (
              have hcl : clashB x y = true := by simp [clashB, overB]; omega
              rw [hcl] at hany
              repeat (first | refine gA ?_ | refine gB ?_ | refine gC rfl ?_ | refine gD rfl ?_ | ((first | refine gE env hN (by kernel_rfl) ?_ | refine gF ?_ | refine gG ?_ | refine gH fun hlen => ?_ | refine gI (by kernel_rfl) ?_ | refine gN rfl ?_ | refine gN (by omega) ?_ | refine gJ rfl ?_ | refine gK (by omega) ?_ | refine gL (by omega) ?_ | refine gK rfl ?_ | refine gO ?_ | refine gM ?_); conv => whnf))
              exact ret0 rfl (congrArg V.bool (by rw [hok, hany]; rfl)) rfl
              done)
            | (
              have hcl : clashB x y = false := by simp [clashB, overB]; omega
              rw [hcl] at hany
              refine ⟨_, _, ?_, ⟨j + 1, by omega, by rw [hany]; rfl, rfl, rfl⟩, ⟨[(1, 1), (4, 4)], [], [], LeG.mk' rfl rfl rfl (by repeat' (first | exact trivial | exact ⟨_, .refl _, rfl⟩ | apply And.intro)) (.cons 1 rfl rfl (.refl _) rfl (.cons 4 rfl rfl (.refl _) rfl .nil)) rfl rfl (by rw [hK]; rfl)⟩⟩
              omega
              done)
            | ((refine boolRes_split (fun hb => ?_) (fun hb => ?_) <;> conv => whnf) <;> (
          (repeat (first | refine gA ?_ | refine gB ?_ | refine gC rfl ?_ | refine gD rfl ?_ | ((first | refine gE env hN (by kernel_rfl) ?_ | refine gF ?_ | refine gG ?_ | refine gH fun hlen => ?_ | refine gI (by kernel_rfl) ?_ | refine gN rfl ?_ | refine gN (by omega) ?_ | refine gJ rfl ?_ | refine gK (by omega) ?_ | refine gL (by omega) ?_ | refine gK rfl ?_ | refine gO ?_); conv => whnf)))
          first
            | (
              have hcl : clashB x y = true := by simp [clashB, overB]; omega
              rw [hcl] at hany
              repeat (first | refine gA ?_ | refine gB ?_ | refine gC rfl ?_ | refine gD rfl ?_ | ((first | refine gE env hN (by kernel_rfl) ?_ | refine gF ?_ | refine gG ?_ | refine gH fun hlen => ?_ | refine gI (by kernel_rfl) ?_ | refine gN rfl ?_ | refine gN (by omega) ?_ | refine gJ rfl ?_ | refine gK (by omega) ?_ | refine gL (by omega) ?_ | refine gK rfl ?_ | refine gO ?_ | refine gM ?_); conv => whnf))
              exact ret0 rfl (congrArg V.bool (by rw [hok, hany]; rfl)) rfl
              done)
            | (
              have hcl : clashB x y = false := by simp [clashB, overB]; omega
              rw [hcl] at hany
              refine ⟨_, _, ?_, ⟨j + 1, by omega, by rw [hany]; rfl, rfl, rfl⟩, ⟨[(1, 1), (4, 4)], [], [], LeG.mk' rfl rfl rfl (by repeat' (first | exact trivial | exact ⟨_, .refl _, rfl⟩ | apply And.intro)) (.cons 1 rfl rfl (.refl _) rfl (.cons 4 rfl rfl (.refl _) rfl .nil)) rfl rfl (by rw [hK]; rfl)⟩⟩
              omega
              done)
            | ((refine boolRes_split (fun hb => ?_) (fun hb => ?_) <;> conv => whnf) <;> (
          (repeat (first | refine gA ?_ | refine gB ?_ | refine gC rfl ?_ | refine gD rfl ?_ | ((first | refine gE env hN (by kernel_rfl) ?_ | refine gF ?_ | refine gG ?_ | refine gH fun hlen => ?_ | refine gI (by kernel_rfl) ?_ | refine gN rfl ?_ | refine gN (by omega) ?_ | refine gJ rfl ?_ | refine gK (by omega) ?_ | refine gL (by omega) ?_ | refine gK rfl ?_ | refine gO ?_); conv => whnf)))
          first
            | (
              have hcl : clashB x y = true := by simp [clashB, overB]; omega
              rw [hcl] at hany
              repeat (first | refine gA ?_ | refine gB ?_ | refine gC rfl ?_ | refine gD rfl ?_ | ((first | refine gE env hN (by kernel_rfl) ?_ | refine gF ?_ | refine gG ?_ | refine gH fun hlen => ?_ | refine gI (by kernel_rfl) ?_ | refine gN rfl ?_ | refine gN (by omega) ?_ | refine gJ rfl ?_ | refine gK (by omega) ?_ | refine gL (by omega) ?_ | refine gK rfl ?_ | refine gO ?_ | refine gM ?_); conv => whnf))
              exact ret0 rfl (congrArg V.bool (by rw [hok, hany]; rfl)) rfl
              done)
            | (
              have hcl : clashB x y = false := by simp [clashB, overB]; omega
              rw [hcl] at hany
              refine ⟨_, _, ?_, ⟨j + 1, by omega, by rw [hany]; rfl, rfl, rfl⟩, ⟨[(1, 1), (4, 4)], [], [], LeG.mk' rfl rfl rfl (by repeat' (first | exact trivial | exact ⟨_, .refl _, rfl⟩ | apply And.intro)) (.cons 1 rfl rfl (.refl _) rfl (.cons 4 rfl rfl (.refl _) rfl .nil)) rfl rfl (by rw [hK]; rfl)⟩⟩
              omega
              done)
            | ((refine boolRes_split (fun hb => ?_) (fun hb => ?_) <;> conv => whnf) <;> (
          (repeat (first | refine gA ?_ | refine gB ?_ | refine gC rfl ?_ | refine gD rfl ?_ | ((first | refine gE env hN (by kernel_rfl) ?_ | refine gF ?_ | refine gG ?_ | refine gH fun hlen => ?_ | refine gI (by kernel_rfl) ?_ | refine gN rfl ?_ | refine gN (by omega) ?_ | refine gJ rfl ?_ | refine gK (by omega) ?_ | refine gL (by omega) ?_ | refine gK rfl ?_ | refine gO ?_); conv => whnf)))
          first
            | (
              have hcl : clashB x y = true := by simp [clashB, overB]; omega
              rw [hcl] at hany
              repeat (first | refine gA ?_ | refine gB ?_ | refine gC rfl ?_ | refine gD rfl ?_ | ((first | refine gE env hN (by kernel_rfl) ?_ | refine gF ?_ | refine gG ?_ | refine gH fun hlen => ?_ | refine gI (by kernel_rfl) ?_ | refine gN rfl ?_ | refine gN (by omega) ?_ | refine gJ rfl ?_ | refine gK (by omega) ?_ | refine gL (by omega) ?_ | refine gK rfl ?_ | refine gO ?_ | refine gM ?_); conv => whnf))
              exact ret0 rfl (congrArg V.bool (by rw [hok, hany]; rfl)) rfl
              done)
            | (
              have hcl : clashB x y = false := by simp [clashB, overB]; omega
              rw [hcl] at hany
              refine ⟨_, _, ?_, ⟨j + 1, by omega, by rw [hany]; rfl, rfl, rfl⟩, ⟨[(1, 1), (4, 4)], [], [], LeG.mk' rfl rfl rfl (by repeat' (first | exact trivial | exact ⟨_, .refl _, rfl⟩ | apply And.intro)) (.cons 1 rfl rfl (.refl _) rfl (.cons 4 rfl rfl (.refl _) rfl .nil)) rfl rfl (by rw [hK]; rfl)⟩⟩
              omega
              done)
            | ((refine boolRes_split (fun hb => ?_) (fun hb => ?_) <;> conv => whnf) <;> (
          (repeat (first | refine gA ?_ | refine gB ?_ | refine gC rfl ?_ | refine gD rfl ?_ | ((first | refine gE env hN (by kernel_rfl) ?_ | refine gF ?_ | refine gG ?_ | refine gH fun hlen => ?_ | refine gI (by kernel_rfl) ?_ | refine gN rfl ?_ | refine gN (by omega) ?_ | refine gJ rfl ?_ | refine gK (by omega) ?_ | refine gL (by omega) ?_ | refine gK rfl ?_ | refine gO ?_); conv => whnf)))
          first
            | (
              have hcl : clashB x y = true := by simp [clashB, overB]; omega
              rw [hcl] at hany
              repeat (first | refine gA ?_ | refine gB ?_ | refine gC rfl ?_ | refine gD rfl ?_ | ((first | refine gE env hN (by kernel_rfl) ?_ | refine gF ?_ | refine gG ?_ | refine gH fun hlen => ?_ | refine gI (by kernel_rfl) ?_ | refine gN rfl ?_ | refine gN (by omega) ?_ | refine gJ rfl ?_ | refine gK (by omega) ?_ | refine gL (by omega) ?_ | refine gK rfl ?_ | refine gO ?_ | refine gM ?_); conv => whnf))
              exact ret0 rfl (congrArg V.bool (by rw [hok, hany]; rfl)) rfl
              done)
            | (
              have hcl : clashB x y = false := by simp [clashB, overB]; omega
              rw [hcl] at hany
              refine ⟨_, _, ?_, ⟨j + 1, by omega, by rw [hany]; rfl, rfl, rfl⟩, ⟨[(1, 1), (4, 4)], [], [], LeG.mk' rfl rfl rfl (by repeat' (first | exact trivial | exact ⟨_, .refl _, rfl⟩ | apply And.intro)) (.cons 1 rfl rfl (.refl _) rfl (.cons 4 rfl rfl (.refl _) rfl .nil)) rfl rfl (by rw [hK]; rfl)⟩⟩
              omega
              done)
            | ((refine boolRes_split (fun hb => ?_) (fun hb => ?_) <;> conv => whnf) <;> fail))))))))))))))))))
        · have hje : j = D.length := by omega
          rw [hje, List.drop_length] at hany
          rw [hany] at hok
          repeat (first | refine gA ?_ | refine gB ?_ | refine gC rfl ?_ | refine gD rfl ?_ | ((first | refine gE env hN (by kernel_rfl) ?_ | refine gF ?_ | refine gG ?_ | refine gH fun hlen => ?_ | refine gI (by kernel_rfl) ?_ | refine gN rfl ?_ | refine gN (by omega) ?_ | refine gJ rfl ?_ | refine gK (by omega) ?_ | refine gL (by omega) ?_ | refine gK rfl ?_ | refine gO ?_); conv => whnf))
          refine ⟨_, _, ?_, ⟨k + 1, by omega, by rw [hok]; rfl, rfl, rfl⟩, ⟨[(1, 1)], [], [], LeG.mk' rfl rfl rfl (by repeat' (first | exact trivial | exact ⟨_, .refl _, rfl⟩ | apply And.intro)) (.cons 1 rfl rfl (.refl _) rfl .nil) rfl rfl (by rw [hK]; rfl)⟩⟩
          omega
  · have hke : k = c.items.length := by omega
    rw [hke, List.drop_length] at hok
    repeat (first | refine gA ?_ | refine gB ?_ | refine gC rfl ?_ | refine gD rfl ?_ | ((first | refine gE env hN (by kernel_rfl) ?_ | refine gF ?_ | refine gG ?_ | refine gH fun hlen => ?_ | refine gI (by kernel_rfl) ?_ | refine gN rfl ?_ | refine gN (by omega) ?_ | refine gJ rfl ?_ | refine gK (by omega) ?_ | refine gL (by omega) ?_ | refine gK rfl ?_ | refine gO ?_ | refine gM ?_); conv => whnf))
    exact ret0 rfl (congrArg V.bool (by rw [hok]; rfl)) rfl
end Go.Sx.Sp
