/- Contracts of collections. -/
import Derived.Test.YtplmjmhanplimaaDoorQOne
import Derived.Test.YtplmjmhanplimaaDoorSxFour
set_option linter.unusedVariables false
set_option linter.unusedSimpArgs false
namespace Go.Sx.Sp
open Go Go.Sx Go.Proofs
attribute [local irreducible] GoodW
structure Item where
  tab : Table
  from_ : Int
  until_ : Int
  deriving DecidableEq
structure Coll where
  version : Int
  oldest : Int
  items : List Item
  deriving DecidableEq
def Item.row (x : Item) : List V := [.int .i64 x.tab.id, .str x.tab.name, .sl (colRows x.tab.cols) false, .int .i64 x.from_, .int .i64 x.until_]
def itemRows (l : List Item) : List (List V) := l.map Item.row
def Coll.row (c : Coll) : List V := [.int .i64 c.version, .int .i64 c.oldest, .sl (itemRows c.items) false]
def Coll.zero : Coll := ⟨0, 0, []⟩
theorem colRows_sz (l : List Column) : rowsSz (colRows l) 2 := by
  unfold rowsSz
  intro r hr
  obtain ⟨c, _, rfl⟩ := List.mem_map.1 hr
  rfl
theorem cellRows_sz (l : List Cell) : rowsSz (cellRows l) 2 := by
  unfold rowsSz
  intro r hr
  obtain ⟨c, _, rfl⟩ := List.mem_map.1 hr
  rfl
theorem fitN {n b : Nat} (h : n ≤ 4294967296) (hb : 0 < b ∧ b ≤ 1024) : fitsV n b := by
  obtain ⟨h0, h1⟩ := hb
  have h2 : n * b ≤ 4294967296 * 1024 := Nat.mul_le_mul h h1
  exact ⟨by omega, by omega⟩
set_option maxHeartbeats 1000000 in
theorem cloneCols_own (rows : List (List V)) (hz : rowsSz rows 2) (hlen : rows.length ≤ 4294967296) : Spec Tryd.prog 94 [.sl rows false] [] (.osl 5 0 0 rows.length rows.length) [(5, .rows 2 rows (some []))] := by
  have hfit : fitsV rows.length 40 := fitN hlen (by omega)
  refine Spec.body env Tryd.func94 rfl (by kernel_rfl) (Nat.le_of_ble_eq_true (by kernel_rfl)) (keysSub rfl) fun Γ hN hK => ?_; have hML : maxLen = 9223372036854775807 := by unfold maxLen; rfl
  cases rows with
  | nil =>
    refine gA ?_
    (refine gE env hN (by kernel_rfl) ?_; conv => whnf)
    refine W.nilSplit (full := false) 0 (by rfl) ?_ ?_
    · repeat (first | refine gA ?_ | refine gB ?_ | refine gC rfl ?_ | refine gD rfl ?_ | ((first | refine gE env hN (by kernel_rfl) ?_ | refine gF ?_ | refine gG ?_ | refine gH fun hlen => ?_ | refine gI (by kernel_rfl) ?_ | refine gN rfl ?_ | refine gN (by omega) ?_ | refine gJ rfl ?_ | refine gK (by omega) ?_ | refine gL (by omega) ?_ | refine gK rfl ?_ | refine gO ?_); conv => whnf))
      refine W.ownNil 2 5 2 rfl rfl ?_
      (refine gM ?_; conv => whnf)
      exact retH rfl (.refl _) rfl rfl rfl ⟨rfl, rfl, trivial⟩
    · repeat (first | refine gA ?_ | refine gB ?_ | refine gC rfl ?_ | refine gD rfl ?_ | ((first | refine gE env hN (by kernel_rfl) ?_ | refine gF ?_ | refine gG ?_ | refine gH fun hlen => ?_ | refine gI (by kernel_rfl) ?_ | refine gN rfl ?_ | refine gN (by omega) ?_ | refine gJ rfl ?_ | refine gK (by omega) ?_ | refine gL (by omega) ?_ | refine gK rfl ?_); conv => whnf))
      refine Or.inl ?_
      conv => whnf
      repeat (first | refine gA ?_ | refine gB ?_ | refine gC rfl ?_ | refine gD rfl ?_ | ((first | refine gE env hN (by kernel_rfl) ?_ | refine gF ?_ | refine gG ?_ | refine gH fun hlen => ?_ | refine gI (by kernel_rfl) ?_ | refine gN rfl ?_ | refine gN (by omega) ?_ | refine gJ rfl ?_ | refine gK (by omega) ?_ | refine gL (by omega) ?_ | refine gK rfl ?_ | refine gO ?_); conv => whnf))
      refine ⟨⟨trivial, rfl⟩, ⟨by decide, by decide⟩, .inl ⟨rfl, rfl, ?_⟩⟩
      conv => whnf
      repeat (first | refine gA ?_ | refine gB ?_ | refine gC rfl ?_ | refine gD rfl ?_ | ((first | refine gE env hN (by kernel_rfl) ?_ | refine gF ?_ | refine gG ?_ | refine gH fun hlen => ?_ | refine gI (by kernel_rfl) ?_ | refine gN rfl ?_ | refine gN (by omega) ?_ | refine gJ rfl ?_ | refine gK (by omega) ?_ | refine gL (by omega) ?_ | refine gK rfl ?_ | refine gO ?_); conv => whnf))
      (refine gM ?_; conv => whnf)
      exact retH rfl (.refl _) rfl rfl rfl ⟨rfl, rfl, trivial⟩
  | cons r rs =>
    repeat (first | refine gA ?_ | refine gB ?_ | refine gC rfl ?_ | refine gD rfl ?_ | ((first | refine gE env hN (by kernel_rfl) ?_ | refine gF ?_ | refine gG ?_ | refine gH fun hlen => ?_ | refine gI (by kernel_rfl) ?_ | refine gN rfl ?_ | refine gN (by omega) ?_ | refine gJ rfl ?_ | refine gK (by omega) ?_ | refine gL (by omega) ?_ | refine gK rfl ?_); conv => whnf))
    refine Or.inl ?_
    conv => whnf
    repeat (first | refine gA ?_ | refine gB ?_ | refine gC rfl ?_ | refine gD rfl ?_ | ((first | refine gE env hN (by kernel_rfl) ?_ | refine gF ?_ | refine gG ?_ | refine gH fun hlen => ?_ | refine gI (by kernel_rfl) ?_ | refine gN rfl ?_ | refine gN (by omega) ?_ | refine gJ rfl ?_ | refine gK (by omega) ?_ | refine gL (by omega) ?_ | refine gK rfl ?_ | refine gO ?_); conv => whnf))
    refine ⟨⟨hz, rfl⟩, by simpa using hfit, .inl ⟨rfl, rfl, ?_⟩⟩
    simp only [Nat.zero_add, List.nil_append]
    conv => whnf
    repeat (first | refine gA ?_ | refine gB ?_ | refine gC rfl ?_ | refine gD rfl ?_ | ((first | refine gE env hN (by kernel_rfl) ?_ | refine gF ?_ | refine gG ?_ | refine gH fun hlen => ?_ | refine gI (by kernel_rfl) ?_ | refine gN rfl ?_ | refine gN (by omega) ?_ | refine gJ rfl ?_ | refine gK (by omega) ?_ | refine gL (by omega) ?_ | refine gK rfl ?_ | refine gO ?_); conv => whnf))
    (refine gM ?_; conv => whnf)
    exact retH rfl (.refl _) rfl rfl rfl ⟨rfl, rfl, trivial⟩
set_option maxHeartbeats 1000000 in
theorem cloneCells (rows : List (List V)) (hz : rowsSz rows 2) (hlen : rows.length ≤ 4294967296) : Spec Tryd.prog 95 [.sl rows false] [] (.sl rows false) [] := by
  have hfit : fitsV rows.length 24 := fitN hlen (by omega)
  refine Spec.body env Tryd.func95 rfl (by kernel_rfl) (Nat.le_of_ble_eq_true (by kernel_rfl)) (keysSub rfl) fun Γ hN hK => ?_; have hML : maxLen = 9223372036854775807 := by unfold maxLen; rfl
  cases rows with
  | nil =>
    refine gA ?_
    (refine gE env hN (by kernel_rfl) ?_; conv => whnf)
    refine W.nilSplit (full := false) 0 (by rfl) ?_ ?_
    · repeat (first | refine gA ?_ | refine gB ?_ | refine gC rfl ?_ | refine gD rfl ?_ | ((first | refine gE env hN (by kernel_rfl) ?_ | refine gF ?_ | refine gG ?_ | refine gH fun hlen => ?_ | refine gI (by kernel_rfl) ?_ | refine gN rfl ?_ | refine gN (by omega) ?_ | refine gJ rfl ?_ | refine gK (by omega) ?_ | refine gL (by omega) ?_ | refine gK rfl ?_ | refine gO ?_ | refine gM ?_); conv => whnf))
      exact ret0 rfl rfl rfl
    · repeat (first | refine gA ?_ | refine gB ?_ | refine gC rfl ?_ | refine gD rfl ?_ | ((first | refine gE env hN (by kernel_rfl) ?_ | refine gF ?_ | refine gG ?_ | refine gH fun hlen => ?_ | refine gI (by kernel_rfl) ?_ | refine gN rfl ?_ | refine gN (by omega) ?_ | refine gJ rfl ?_ | refine gK (by omega) ?_ | refine gL (by omega) ?_ | refine gK rfl ?_); conv => whnf))
      refine Or.inl ?_
      conv => whnf
      repeat (first | refine gA ?_ | refine gB ?_ | refine gC rfl ?_ | refine gD rfl ?_ | ((first | refine gE env hN (by kernel_rfl) ?_ | refine gF ?_ | refine gG ?_ | refine gH fun hlen => ?_ | refine gI (by kernel_rfl) ?_ | refine gN rfl ?_ | refine gN (by omega) ?_ | refine gJ rfl ?_ | refine gK (by omega) ?_ | refine gL (by omega) ?_ | refine gK rfl ?_ | refine gO ?_); conv => whnf))
      refine ⟨⟨trivial, rfl⟩, ⟨by decide, by decide⟩, .inl ⟨rfl, rfl, ?_⟩⟩
      conv => whnf
      repeat (first | refine gA ?_ | refine gB ?_ | refine gC rfl ?_ | refine gD rfl ?_ | ((first | refine gE env hN (by kernel_rfl) ?_ | refine gF ?_ | refine gG ?_ | refine gH fun hlen => ?_ | refine gI (by kernel_rfl) ?_ | refine gN rfl ?_ | refine gN (by omega) ?_ | refine gJ rfl ?_ | refine gK (by omega) ?_ | refine gL (by omega) ?_ | refine gK rfl ?_ | refine gO ?_); conv => whnf))
      refine W.leG (mp := []) (bo := [5]) (st' := ⟨[(2, .sl [] false)], [], []⟩) (LeG.mk' rfl rfl rfl ⟨⟨_, Lent.whole rfl rfl rfl rfl (.inl rfl), rfl⟩, trivial⟩ .nil rfl rfl (by rw [hK]; rfl)) ?_
      (refine gM ?_; conv => whnf)
      exact ret0 rfl rfl rfl
  | cons r rs =>
    repeat (first | refine gA ?_ | refine gB ?_ | refine gC rfl ?_ | refine gD rfl ?_ | ((first | refine gE env hN (by kernel_rfl) ?_ | refine gF ?_ | refine gG ?_ | refine gH fun hlen => ?_ | refine gI (by kernel_rfl) ?_ | refine gN rfl ?_ | refine gN (by omega) ?_ | refine gJ rfl ?_ | refine gK (by omega) ?_ | refine gL (by omega) ?_ | refine gK rfl ?_); conv => whnf))
    refine Or.inl ?_
    conv => whnf
    repeat (first | refine gA ?_ | refine gB ?_ | refine gC rfl ?_ | refine gD rfl ?_ | ((first | refine gE env hN (by kernel_rfl) ?_ | refine gF ?_ | refine gG ?_ | refine gH fun hlen => ?_ | refine gI (by kernel_rfl) ?_ | refine gN rfl ?_ | refine gN (by omega) ?_ | refine gJ rfl ?_ | refine gK (by omega) ?_ | refine gL (by omega) ?_ | refine gK rfl ?_ | refine gO ?_); conv => whnf))
    refine ⟨⟨hz, rfl⟩, by simpa using hfit, .inl ⟨rfl, rfl, ?_⟩⟩
    simp only [Nat.zero_add, List.nil_append]
    conv => whnf
    repeat (first | refine gA ?_ | refine gB ?_ | refine gC rfl ?_ | refine gD rfl ?_ | ((first | refine gE env hN (by kernel_rfl) ?_ | refine gF ?_ | refine gG ?_ | refine gH fun hlen => ?_ | refine gI (by kernel_rfl) ?_ | refine gN rfl ?_ | refine gN (by omega) ?_ | refine gJ rfl ?_ | refine gK (by omega) ?_ | refine gL (by omega) ?_ | refine gK rfl ?_ | refine gO ?_); conv => whnf))
    refine W.leG (mp := []) (bo := [5]) (st' := ⟨[(2, .sl (r :: rs) false)], [], []⟩) (LeG.mk' rfl rfl rfl ⟨⟨_, Lent.whole rfl rfl rfl rfl (.inl rfl), rfl⟩, trivial⟩ .nil rfl rfl (by rw [hK]; rfl)) ?_
    (refine gM ?_; conv => whnf)
    exact ret0 rfl rfl rfl
end Go.Sx.Sp
namespace Go.Sx.Sp
open Go Go.Sx Go.Proofs
attribute [local irreducible] GoodW
structure Table.Few (t : Table) : Prop where
  cols : t.cols.length ≤ 4294967296
  cells : ∀ c ∈ t.cols, c.cells.length ≤ 4294967296
def Coll.Few (c : Coll) : Prop := c.items.length ≤ 4294967296 ∧ ∀ x ∈ c.items, x.tab.Few
end Go.Sx.Sp
namespace Go.Sx.Sp
open Go Go.Sx Go.Proofs
attribute [local irreducible] GoodW
def overB (a b : Item) : Bool := decide ((b.until_ = 0 ∨ a.from_ < b.until_) ∧ (a.until_ = 0 ∨ b.from_ < a.until_))
def restB (v : Int) (x : Item) : Bool := decide (1 ≤ x.tab.id ∧ 1 ≤ x.from_ ∧ x.from_ ≤ v ∧ (x.until_ = 0 ∨ x.from_ < x.until_ ∧ x.until_ ≤ v))
def properB (v : Int) (x : Item) : Bool := validB x.tab && restB v x
def clashB (x y : Item) : Bool := decide (y.tab.id = x.tab.id) && overB x y
end Go.Sx.Sp
namespace Go.Sx.Sp
open Go Go.Sx Go.Proofs
attribute [local irreducible] GoodW
def hasB (id : Int) (x : Item) : Bool := decide (x.tab.id = id ∧ x.until_ = 0)
def itemsOK (v : Int) : List Item → List Item → Bool
  | _, [] => true
  | d, x :: r => properB v x && !d.any (clashB x) && itemsOK v (d ++ [x]) r
def collB (c : Coll) : Bool := decide (0 ≤ c.oldest ∧ c.oldest ≤ c.version ∧ c.version ≤ 1073741824 ∧ c.items.length ≤ 1024) && itemsOK c.version [] c.items
end Go.Sx.Sp
namespace Go.Sx.Sp
open Go Go.Sx Go.Proofs
attribute [local irreducible] GoodW
theorem validB_few {t : Table} (h : validB t = true) : t.Few := by
  simp only [validB, headB, Bool.and_eq_true, decide_eq_true_eq, Bool.not_eq_true', List.any_eq_false] at h
  obtain ⟨⟨⟨⟨h1, h2⟩, h3⟩, h4⟩, h5⟩ := h
  refine ⟨by omega, fun c hc => ?_⟩
  have h6 := h5 c hc
  simp only [badCol, Bool.or_eq_true, decide_eq_true_eq, not_or, Decidable.not_not] at h6
  omega
theorem ixFrom_cases {α : Type} (p : α → Bool) : ∀ (l : List α) (k : Nat), (ixFrom p l k = -1 ∧ l.any p = false) ∨ ∃ i, ∃ h : i < l.length, ixFrom p l k = ((k + i : Nat) : Int) ∧ p l[i] = true
  | [], k => .inl ⟨rfl, rfl⟩
  | x :: l, k => by
    simp only [ixFrom]
    by_cases h : p x = true
    · exact .inr ⟨0, by simp, by simp [h], by simpa using h⟩
    · rcases ixFrom_cases p l (k + 1) with ⟨h1, h2⟩ | ⟨i, hi, h1, h2⟩
      · refine .inl ⟨by simp [h, h1], by simp [h, h2]⟩
      · refine .inr ⟨i + 1, by simp; omega, ?_, by simpa using h2⟩
        rw [if_neg h, h1]
        congr 1
        omega
def closeAt (l : List Item) (i : Int) (v : Int) : List Item := if 0 ≤ i then l.modify i.toNat fun x => { x with until_ := v } else l
def putM (c : Coll) (t : Table) : Coll × Int :=
  if collB c = true ∧ validB t = true ∧ 1 ≤ t.id then
    if 1024 ≤ c.items.length ∨ 1073741824 ≤ c.version then (Coll.zero, 3)
    else (⟨c.version + 1, c.oldest, closeAt c.items (ixFrom (hasB t.id) c.items 0) (c.version + 1) ++ [⟨t, c.version + 1, 0⟩]⟩, 0)
  else (Coll.zero, 1)
theorem closeAt_len (l : List Item) (i v : Int) : (closeAt l i v).length = l.length := by
  unfold closeAt; split <;> simp
end Go.Sx.Sp
namespace Go.Sx.Sp
open Go Go.Sx Go.Proofs
attribute [local irreducible] GoodW
def dropM (c : Coll) (id : Int) : Coll × Int :=
  if collB c = true then
    if ixFrom (hasB id) c.items 0 < 0 then (Coll.zero, 5)
    else if 1073741824 ≤ c.version then (Coll.zero, 3)
    else (⟨c.version + 1, c.oldest, closeAt c.items (ixFrom (hasB id) c.items 0) (c.version + 1)⟩, 0)
  else (Coll.zero, 1)
end Go.Sx.Sp
namespace Go.Sx.Sp
open Go Go.Sx Go.Proofs
attribute [local irreducible] GoodW
end Go.Sx.Sp
namespace Go.Sx.Sp
open Go Go.Sx Go.Proofs
attribute [local irreducible] GoodW
end Go.Sx.Sp
