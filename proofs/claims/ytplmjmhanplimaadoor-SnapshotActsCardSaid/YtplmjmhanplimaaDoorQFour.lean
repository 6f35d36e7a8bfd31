/- Collections as they are drawn, and the law of a table that is put and dropped once. -/
import Derived.Test.YtplmjmhanplimaaDoorQThree
import Derived.Test.YtplmjmhanplimaaDoorSxFour
set_option linter.unusedVariables false
set_option linter.unusedSimpArgs false
namespace Go.Sx.Sp
open Go Go.Sx Go.Proofs
attribute [local irreducible] GoodW
set_option maxHeartbeats 8000000 in
theorem insertion0_spec : Spec Tryd.prog 117 [.osl 0 0 0 0 0, .int .i64 0, .int .i64 0, .fn 67 []] [(0, .rows 3 [] (some []))] (.tup []) [(0, .rows 3 [] (some []))] := by
  refine Spec.body env Tryd.func117 rfl (by kernel_rfl) (Nat.le_of_ble_eq_true (by kernel_rfl)) (keysSub rfl) fun Γ hN hK => ?_; have hML : maxLen = 9223372036854775807 := by unfold maxLen; rfl
  repeat (first | refine gA ?_ | refine gB ?_ | refine gC rfl ?_ | refine gD rfl ?_ | ((first | refine gE env hN (by kernel_rfl) ?_ | refine gF ?_ | refine gG ?_ | refine gH fun hlen => ?_ | refine gI (by kernel_rfl) ?_ | refine gN rfl ?_ | refine gN (by omega) ?_ | refine gJ rfl ?_ | refine gK (by omega) ?_ | refine gL (by omega) ?_ | refine gK rfl ?_ | refine gO ?_); conv => whnf))
  refine W.loopG (fun n st => n = 0 ∧ st = ⟨[(0, .osl 0 0 0 0 0), (1, .int .i64 0), (2, .int .i64 0), (3, .fn 67 []), (8, .int .i64 1)], [(0, [.rows 3 [] (some [])])], [0]⟩)
    0 _ ⟨rfl, rfl⟩ ⟨[(0, 0)], [], [], LeG.mk' rfl rfl rfl (by repeat' (first | exact trivial | exact ⟨_, .refl _, rfl⟩ | apply And.intro)) (.cons 0 rfl rfl (.refl _) rfl .nil) rfl rfl (by rw [hK]; rfl)⟩ ?_
  rintro n st ⟨rfl, rfl⟩
  repeat (first | refine gA ?_ | refine gB ?_ | refine gC rfl ?_ | refine gD rfl ?_ | ((first | refine gE env hN (by kernel_rfl) ?_ | refine gF ?_ | refine gG ?_ | refine gH fun hlen => ?_ | refine gI (by kernel_rfl) ?_ | refine gN rfl ?_ | refine gN (by omega) ?_ | refine gJ rfl ?_ | refine gK (by omega) ?_ | refine gL (by omega) ?_ | refine gK rfl ?_ | refine gO ?_); conv => whnf))
  exact retHn rfl (.refl _) rfl rfl rfl ⟨rfl, rfl, trivial⟩
theorem insertionAny_spec (l : List Table) (hn : l.length ≤ 12) : Spec Tryd.prog 117 [.osl 0 0 0 (tblRows l).length (tblRows l).length, .int .i64 0, .int .i64 (tblRows l).length, .fn 67 []] [(0, .rows 3 (tblRows l) (some []))] (.tup []) [(0, .rows 3 (tblRows (sortT l)) (some []))] := by
  cases l with
  | nil => exact insertion0_spec
  | cons x r => exact insertion_spec _ (by simp) hn
set_option maxHeartbeats 8000000 in
theorem pdq_spec (l : List Table) (k : Int) (hn : l.length ≤ 12) : Spec Tryd.prog 100 [.osl 0 0 0 (tblRows l).length (tblRows l).length, .int .i64 0, .int .i64 (tblRows l).length, .int .i64 k, .fn 67 []] [(0, .rows 3 (tblRows l) (some []))] (.tup []) [(0, .rows 3 (tblRows (sortT l)) (some []))] := by
  have hll := tblRows_len l
  have sp := insertionAny_spec l hn
  refine Spec.body env Tryd.func100 rfl (by kernel_rfl) (Nat.le_of_ble_eq_true (by kernel_rfl)) (keysSub rfl) fun Γ hN hK => ?_; have hML : maxLen = 9223372036854775807 := by unfold maxLen; rfl
  repeat (first | refine gA ?_ | refine gB ?_ | refine gC rfl ?_ | refine gD rfl ?_ | ((first | refine gE env hN (by kernel_rfl) ?_ | refine gF ?_ | refine gG ?_ | refine gH fun hlen => ?_ | refine gI (by kernel_rfl) ?_ | refine gN rfl ?_ | refine gN (by omega) ?_ | refine gJ rfl ?_ | refine gK (by omega) ?_ | refine gL (by omega) ?_ | refine gK rfl ?_ | refine gO ?_); conv => whnf))
  refine W.loopG (fun n st => n = 0 ∧ st = ⟨[(0, .osl 0 0 0 (tblRows l).length (tblRows l).length), (1, .int .i64 0), (2, .int .i64 (tblRows l).length), (3, .int .i64 k), (4, .fn 67 [])], [(0, [.rows 3 (tblRows l) (some [])])], [0]⟩)
    0 _ ⟨rfl, rfl⟩ ⟨[(0, 0)], [], [], LeG.mk' rfl rfl rfl (by repeat' (first | exact trivial | exact ⟨_, .refl _, rfl⟩ | apply And.intro)) (.cons 0 rfl rfl (.refl _) rfl .nil) rfl rfl (by rw [hK]; rfl)⟩ ?_
  rintro n st ⟨rfl, rfl⟩
  repeat (first | refine gA ?_ | refine gB ?_ | refine gC rfl ?_ | refine gD rfl ?_ | ((first | refine gE env hN (by kernel_rfl) ?_ | refine gF ?_ | refine gG ?_ | refine gH fun hlen => ?_ | refine gI (by kernel_rfl) ?_ | refine gN rfl ?_ | refine gN (by omega) ?_ | refine gJ rfl ?_ | refine gK (by omega) ?_ | refine gL (by omega) ?_ | refine gK rfl ?_ | refine gO ?_); conv => whnf))
  (refine ⟨_, _, _, callG [(0, 0)] [] [] rfl rfl rfl (by kernel_rfl) (sp) (by repeat' (first | exact trivial | exact Lent.refl _ | exact Lent.norm _ | apply And.intro)) rfl ⟨rfl, rfl, rfl, rfl, rfl, by repeat' (first | exact trivial | rfl | apply And.intro), rfl, rfl⟩, ?_⟩; conv => whnf)
  repeat (first | refine gA ?_ | refine gB ?_ | refine gC rfl ?_ | refine gD rfl ?_ | ((first | refine gE env hN (by kernel_rfl) ?_ | refine gF ?_ | refine gG ?_ | refine gH fun hlen => ?_ | refine gI (by kernel_rfl) ?_ | refine gN rfl ?_ | refine gN (by omega) ?_ | refine gJ rfl ?_ | refine gK (by omega) ?_ | refine gL (by omega) ?_ | refine gK rfl ?_ | refine gO ?_); conv => whnf))
  (refine gM ?_; conv => whnf)
  exact retH rfl (.refl _) rfl rfl rfl ⟨rfl, rfl, trivial⟩
set_option maxHeartbeats 8000000 in
theorem sortFunc_spec (l : List Table) (hn : l.length ≤ 12) : Spec Tryd.prog 66 [.osl 0 0 0 (tblRows l).length (tblRows l).length, .fn 67 []] [(0, .rows 3 (tblRows l) (some []))] (.tup []) [(0, .rows 3 (tblRows (sortT l)) (some []))] := by
  have hll := tblRows_len l
  have sp1 := len_spec l.length hn
  have sp2 := pdq_spec l (blen l.length) hn
  have hw : IntKind.u64.wrap ((tblRows l).length : Int) = l.length := by
    rw [hll]
    exact IntWalk.u64_in _ (by omega)
  rw [← hw] at sp1
  refine Spec.body env Tryd.func66 rfl (by kernel_rfl) (Nat.le_of_ble_eq_true (by kernel_rfl)) (keysSub rfl) fun Γ hN hK => ?_; have hML : maxLen = 9223372036854775807 := by unfold maxLen; rfl
  repeat (first | refine gA ?_ | refine gB ?_ | refine gC rfl ?_ | refine gD rfl ?_ | ((first | refine gE env hN (by kernel_rfl) ?_ | refine gF ?_ | refine gG ?_ | refine gH fun hlen => ?_ | refine gI (by kernel_rfl) ?_ | refine gN rfl ?_ | refine gN (by omega) ?_ | refine gJ rfl ?_ | refine gK (by omega) ?_ | refine gL (by omega) ?_ | refine gK rfl ?_ | refine gO ?_); conv => whnf))
  (refine ⟨_, _, _, callG [] [] [] rfl rfl rfl (by kernel_rfl) (sp1) (by repeat' (first | exact trivial | exact Lent.refl _ | exact Lent.norm _ | apply And.intro)) rfl ⟨rfl, rfl, rfl, rfl, rfl, trivial, rfl, rfl⟩, ?_⟩; conv => whnf)
  repeat (first | refine gA ?_ | refine gB ?_ | refine gC rfl ?_ | refine gD rfl ?_ | ((first | refine gE env hN (by kernel_rfl) ?_ | refine gF ?_ | refine gG ?_ | refine gH fun hlen => ?_ | refine gI (by kernel_rfl) ?_ | refine gN rfl ?_ | refine gN (by omega) ?_ | refine gJ rfl ?_ | refine gK (by omega) ?_ | refine gL (by omega) ?_ | refine gK rfl ?_ | refine gO ?_); conv => whnf))
  (refine ⟨_, _, _, callG [(0, 0)] [] [] rfl rfl rfl (by kernel_rfl) (sp2) (by repeat' (first | exact trivial | exact Lent.refl _ | exact Lent.norm _ | apply And.intro)) rfl ⟨rfl, rfl, rfl, rfl, rfl, by repeat' (first | exact trivial | rfl | apply And.intro), rfl, rfl⟩, ?_⟩; conv => whnf)
  repeat (first | refine gA ?_ | refine gB ?_ | refine gC rfl ?_ | refine gD rfl ?_ | ((first | refine gE env hN (by kernel_rfl) ?_ | refine gF ?_ | refine gG ?_ | refine gH fun hlen => ?_ | refine gI (by kernel_rfl) ?_ | refine gN rfl ?_ | refine gN (by omega) ?_ | refine gJ rfl ?_ | refine gK (by omega) ?_ | refine gL (by omega) ?_ | refine gK rfl ?_ | refine gO ?_); conv => whnf))
  exact retHn rfl (.refl _) rfl rfl rfl ⟨rfl, rfl, trivial⟩
def aliveB (v : Int) (x : Item) : Bool := decide (x.from_ ≤ v ∧ (x.until_ = 0 ∨ v < x.until_))
def aliveT (v : Int) (l : List Item) : List Table := (l.filter (aliveB v)).map Item.tab
def atM (c : Coll) (v : Int) : List Table × Int :=
  if collB c = true then
    if v < c.oldest ∨ c.version < v then ([], 23)
    else (sortT (aliveT v c.items), 0)
  else ([], 1)
theorem aliveT_snoc {v : Int} {l : List Item} {k : Nat} (h : k < l.length) : aliveT v (l.take (k + 1)) = if aliveB v l[k] = true then aliveT v (l.take k) ++ [l[k].tab] else aliveT v (l.take k) := by
  unfold aliveT
  rw [List.take_succ_eq_append_getElem h, List.filter_append]
  by_cases h1 : aliveB v l[k] = true <;> simp [h1]
theorem aliveT_len (v : Int) (l : List Item) : (aliveT v l).length ≤ l.length := by
  unfold aliveT; rw [List.length_map]; exact List.length_filter_le _ _
set_option maxHeartbeats 8000000 in
theorem at_spec (c : Coll) (v : Int) (hn : c.items.length ≤ 12) : Spec Tryd.prog 29 [.agg c.row, .int .i64 v] [] (.tup [.sl (tblRows (atM c v).1) false, .int .i64 (atM c v).2]) [] := by
  have sp1 := snapValid_spec c
  have hcl := itemRows_len c.items
  refine Spec.body env Tryd.func29 rfl (by kernel_rfl) (Nat.le_of_ble_eq_true (by kernel_rfl)) (keysSub rfl) fun Γ hN hK => ?_; have hML : maxLen = 9223372036854775807 := by unfold maxLen; rfl
  cases h1 : collB c with
  | false =>
    rw [h1] at sp1
    repeat (first | refine gA ?_ | refine gB ?_ | refine gC rfl ?_ | refine gD rfl ?_ | ((first | refine gE env hN (by kernel_rfl) ?_ | refine gF ?_ | refine gG ?_ | refine gH fun hlen => ?_ | refine gI (by kernel_rfl) ?_ | refine gN rfl ?_ | refine gN (by omega) ?_ | refine gJ rfl ?_ | refine gK (by omega) ?_ | refine gL (by omega) ?_ | refine gK rfl ?_ | refine gO ?_); conv => whnf))
    (refine ⟨_, _, _, callG [] [] [] rfl rfl rfl (by kernel_rfl) (sp1) (by repeat' (first | exact trivial | exact Lent.refl _ | exact Lent.norm _ | apply And.intro)) rfl ⟨rfl, rfl, rfl, rfl, rfl, trivial, rfl, rfl⟩, ?_⟩; conv => whnf)
    repeat (first | refine gA ?_ | refine gB ?_ | refine gC rfl ?_ | refine gD rfl ?_ | ((first | refine gE env hN (by kernel_rfl) ?_ | refine gF ?_ | refine gG ?_ | refine gH fun hlen => ?_ | refine gI (by kernel_rfl) ?_ | refine gN rfl ?_ | refine gN (by omega) ?_ | refine gJ rfl ?_ | refine gK (by omega) ?_ | refine gL (by omega) ?_ | refine gK rfl ?_ | refine gO ?_ | refine gM ?_); conv => whnf))
    exact ret0 rfl (by rw [show atM c v = ([], 1) by simp [atM, h1]]; rfl) rfl
  | true =>
    rw [h1] at sp1
    repeat (first | refine gA ?_ | refine gB ?_ | refine gC rfl ?_ | refine gD rfl ?_ | ((first | refine gE env hN (by kernel_rfl) ?_ | refine gF ?_ | refine gG ?_ | refine gH fun hlen => ?_ | refine gI (by kernel_rfl) ?_ | refine gN rfl ?_ | refine gN (by omega) ?_ | refine gJ rfl ?_ | refine gK (by omega) ?_ | refine gL (by omega) ?_ | refine gK rfl ?_ | refine gO ?_); conv => whnf))
    (refine ⟨_, _, _, callG [] [] [] rfl rfl rfl (by kernel_rfl) (sp1) (by repeat' (first | exact trivial | exact Lent.refl _ | exact Lent.norm _ | apply And.intro)) rfl ⟨rfl, rfl, rfl, rfl, rfl, trivial, rfl, rfl⟩, ?_⟩; conv => whnf)
    repeat (first | refine gA ?_ | refine gB ?_ | refine gC rfl ?_ | refine gD rfl ?_ | ((first | refine gE env hN (by kernel_rfl) ?_ | refine gF ?_ | refine gG ?_ | refine gH fun hlen => ?_ | refine gI (by kernel_rfl) ?_ | refine gN rfl ?_ | refine gN (by omega) ?_ | refine gJ rfl ?_ | refine gK (by omega) ?_ | refine gL (by omega) ?_ | refine gK rfl ?_ | refine gO ?_); conv => whnf))
    refine boolRes_split (fun hb => ?_) (fun hb => ?_) <;> conv => whnf
    · repeat (first | refine gA ?_ | refine gB ?_ | refine gC rfl ?_ | refine gD rfl ?_ | ((first | refine gE env hN (by kernel_rfl) ?_ | refine gF ?_ | refine gG ?_ | refine gH fun hlen => ?_ | refine gI (by kernel_rfl) ?_ | refine gN rfl ?_ | refine gN (by omega) ?_ | refine gJ rfl ?_ | refine gK (by omega) ?_ | refine gL (by omega) ?_ | refine gK rfl ?_ | refine gO ?_ | refine gM ?_); conv => whnf))
      exact ret0 rfl (by rw [show atM c v = ([], 23) by simp [atM, h1, hb]]; rfl) rfl
    repeat (first | refine gA ?_ | refine gB ?_ | refine gC rfl ?_ | refine gD rfl ?_ | ((first | refine gE env hN (by kernel_rfl) ?_ | refine gF ?_ | refine gG ?_ | refine gH fun hlen => ?_ | refine gI (by kernel_rfl) ?_ | refine gN rfl ?_ | refine gN (by omega) ?_ | refine gJ rfl ?_ | refine gK (by omega) ?_ | refine gL (by omega) ?_ | refine gK rfl ?_ | refine gO ?_); conv => whnf))
    refine boolRes_split (fun hb => ?_) (fun hb => ?_) <;> conv => whnf
    · repeat (first | refine gA ?_ | refine gB ?_ | refine gC rfl ?_ | refine gD rfl ?_ | ((first | refine gE env hN (by kernel_rfl) ?_ | refine gF ?_ | refine gG ?_ | refine gH fun hlen => ?_ | refine gI (by kernel_rfl) ?_ | refine gN rfl ?_ | refine gN (by omega) ?_ | refine gJ rfl ?_ | refine gK (by omega) ?_ | refine gL (by omega) ?_ | refine gK rfl ?_ | refine gO ?_ | refine gM ?_); conv => whnf))
      exact ret0 rfl (by rw [show atM c v = ([], 23) by simp [atM, h1, hb]]; rfl) rfl
    have hm : atM c v = (sortT (aliveT v c.items), 0) := by
      have : ¬ (v < c.oldest ∨ c.version < v) := by omega
      simp [atM, h1, this]
    rw [hm]
    have hfew := collB_few h1
    repeat (first | refine gA ?_ | refine gB ?_ | refine gC rfl ?_ | refine gD rfl ?_ | ((first | refine gE env hN (by kernel_rfl) ?_ | refine gF ?_ | refine gG ?_ | refine gH fun hlen => ?_ | refine gI (by kernel_rfl) ?_ | refine gN rfl ?_ | refine gN (by omega) ?_ | refine gJ rfl ?_ | refine gK (by omega) ?_ | refine gL (by omega) ?_ | refine gK rfl ?_ | refine gO ?_); conv => whnf))
    refine W.ownNil 6 51 3 rfl rfl ?_
    refine W.loopG (fun n st => ∃ k : Nat, k ≤ c.items.length ∧ n = c.items.length - k ∧ st = ⟨[(1, .int .i64 v), (5, .int .i64 0), (6, .osl 51 0 0 (tblRows (aliveT v (c.items.take k))).length (tblRows (aliveT v (c.items.take k))).length), (25, .sl (itemRows c.items) false), (26, .int .i64 (itemRows c.items).length), (27, .int .i64 k)], [(51, [.rows 3 (tblRows (aliveT v (c.items.take k))) (some [])])], [51]⟩)
      c.items.length _ ⟨0, Nat.zero_le _, rfl, rfl⟩ ⟨[(51, 51)], [], [], LeG.mk' rfl rfl rfl (by repeat' (first | exact trivial | exact ⟨_, .refl _, rfl⟩ | apply And.intro)) (.cons 51 rfl rfl (.refl _) rfl .nil) rfl rfl (by rw [hK]; rfl)⟩ ?_
    rintro n st ⟨k, hk, rfl, rfl⟩
    repeat (first | refine gA ?_ | refine gB ?_ | refine gC rfl ?_ | refine gD rfl ?_ | ((first | refine gE env hN (by kernel_rfl) ?_ | refine gF ?_ | refine gG ?_ | refine gH fun hlen => ?_ | refine gI (by kernel_rfl) ?_ | refine gN rfl ?_ | refine gN (by omega) ?_ | refine gJ rfl ?_ | refine gK (by omega) ?_ | refine gL (by omega) ?_ | refine gK rfl ?_ | refine gO ?_); conv => whnf))
    refine boolRes_split (fun hb => ?_) (fun hb => ?_) <;> conv => whnf
    · have hlt : k < c.items.length := by omega
      have hx := itemRows_get hlt
      have hlk := aliveT_snoc (v := v) hlt
      have hfx := hfew.2 _ (List.getElem_mem hlt)
      have hlim : (tblRows (aliveT v (c.items.take k))).length ≤ k := by
        rw [tblRows_len]
        have h2 := aliveT_len v (c.items.take k)
        have h3 : (c.items.take k).length ≤ k := by simp; omega
        omega
      generalize c.items[k] = x at *
      have sp2 := listsOwn_spec x.tab hfx
      repeat (first | refine gA ?_ | refine gB ?_ | refine gC rfl ?_ | refine gD rfl ?_ | ((first | refine gE env hN (by kernel_rfl) ?_ | refine gF ?_ | refine gG ?_ | refine gH fun hlen => ?_ | refine gI (by kernel_rfl) ?_ | refine gN rfl ?_ | refine gN (by omega) ?_ | refine gJ rfl ?_ | refine gK (by omega) ?_ | refine gL (by omega) ?_ | refine gK rfl ?_ | refine gO ?_); conv => whnf))
      refine rowAt_of (by simpa using hx) ?_
      conv => whnf
      (
                                    (repeat (first | refine gA ?_ | refine gB ?_ | refine gC rfl ?_ | refine gD rfl ?_ | ((first | refine gE env hN (by kernel_rfl) ?_ | refine gF ?_ | refine gG ?_ | refine gH fun hlen => ?_ | refine gI (by kernel_rfl) ?_ | refine gN rfl ?_ | refine gN (by omega) ?_ | refine gJ rfl ?_ | refine gK (by omega) ?_ | refine gL (by omega) ?_ | refine gK rfl ?_ | refine gO ?_); conv => whnf)))
                                    first
                                      | (
                                        have hp : aliveB v x = true := by simp [aliveB]; omega
                                        rw [hp, if_pos rfl] at hlk
                                        (refine ⟨_, _, _, callG [] [] [] rfl rfl rfl (by kernel_rfl) (sp2) (by repeat' (first | exact trivial | exact Lent.refl _ | exact Lent.norm _ | apply And.intro)) rfl ⟨rfl, rfl, rfl, rfl, rfl, trivial, rfl, rfl⟩, ?_⟩; conv => whnf)
                                        repeat (first | refine gA ?_ | refine gB ?_ | refine gC rfl ?_ | refine gD rfl ?_ | ((first | refine gE env hN (by kernel_rfl) ?_ | refine gF ?_ | refine gG ?_ | refine gH fun hlen => ?_ | refine gI (by kernel_rfl) ?_ | refine gN rfl ?_ | refine gN (by omega) ?_ | refine gJ rfl ?_ | refine gK (by omega) ?_ | refine gL (by omega) ?_ | refine gK rfl ?_ | refine gO ?_); conv => whnf))
                                        refine ⟨⟨rowsSz_cons rfl rowsSz_nil, rfl⟩, fitN (n := (tblRows (aliveT v (c.items.take k))).length + 1) (b := 48) (by omega) (by omega), .inl ⟨rfl, rfl, ?_⟩⟩
                                        conv => whnf
                                        repeat (first | refine gA ?_ | refine gB ?_ | refine gC rfl ?_ | refine gD rfl ?_ | ((first | refine gE env hN (by kernel_rfl) ?_ | refine gF ?_ | refine gG ?_ | refine gH fun hlen => ?_ | refine gI (by kernel_rfl) ?_ | refine gN rfl ?_ | refine gN (by omega) ?_ | refine gJ rfl ?_ | refine gK (by omega) ?_ | refine gL (by omega) ?_ | refine gK rfl ?_ | refine gO ?_); conv => whnf))
                                        have hn := tblRows_snoc (aliveT v (c.items.take k)) x.tab
                                        rw [← hlk] at hn
                                        refine ⟨_, _, ?_, ⟨k + 1, by omega, rfl, rfl⟩, [(51, 51)], [], [], LeG.mk' rfl rfl rfl ⟨⟨_, .refl _, rfl⟩, ⟨_, .refl _, rfl⟩, ⟨_, .refl _, ?_⟩, ⟨_, .refl _, rfl⟩, ⟨_, .refl _, rfl⟩, ⟨_, .refl _, rfl⟩, trivial⟩ (.cons 51 rfl rfl (.refl _) ?_ .nil) rfl rfl (by rw [hK]; rfl)⟩
                                        · omega
                                        · rw [hn, List.length_append]; rfl
                                        · rw [hn]; rfl
                                        done)
                                      | (
                                        have hp : aliveB v x = false := by simp [aliveB]; omega
                                        rw [hp, if_neg (by simp)] at hlk
                                        refine ⟨_, _, ?_, ⟨k + 1, by omega, rfl, rfl⟩, [(51, 51)], [], [], LeG.mk' rfl rfl rfl ⟨⟨_, .refl _, rfl⟩, ⟨_, .refl _, rfl⟩, ⟨_, .refl _, ?_⟩, ⟨_, .refl _, rfl⟩, ⟨_, .refl _, rfl⟩, ⟨_, .refl _, rfl⟩, trivial⟩ (.cons 51 rfl rfl (.refl _) ?_ .nil) rfl rfl (by rw [hK]; rfl)⟩
                                        · omega
                                        · rw [hlk]; rfl
                                        · rw [hlk]; rfl
                                        done)
                                      | ((refine boolRes_split (fun hb => ?_) (fun hb => ?_) <;> conv => whnf) <;> (
                                    (repeat (first | refine gA ?_ | refine gB ?_ | refine gC rfl ?_ | refine gD rfl ?_ | ((first | refine gE env hN (by kernel_rfl) ?_ | refine gF ?_ | refine gG ?_ | refine gH fun hlen => ?_ | refine gI (by kernel_rfl) ?_ | refine gN rfl ?_ | refine gN (by omega) ?_ | refine gJ rfl ?_ | refine gK (by omega) ?_ | refine gL (by omega) ?_ | refine gK rfl ?_ | refine gO ?_); conv => whnf)))
                                    first
                                      | (
                                        have hp : aliveB v x = true := by simp [aliveB]; omega
                                        rw [hp, if_pos rfl] at hlk
                                        (refine ⟨_, _, _, callG [] [] [] rfl rfl rfl (by kernel_rfl) (sp2) (by repeat' (first | exact trivial | exact Lent.refl _ | exact Lent.norm _ | apply And.intro)) rfl ⟨rfl, rfl, rfl, rfl, rfl, trivial, rfl, rfl⟩, ?_⟩; conv => whnf)
                                        repeat (first | refine gA ?_ | refine gB ?_ | refine gC rfl ?_ | refine gD rfl ?_ | ((first | refine gE env hN (by kernel_rfl) ?_ | refine gF ?_ | refine gG ?_ | refine gH fun hlen => ?_ | refine gI (by kernel_rfl) ?_ | refine gN rfl ?_ | refine gN (by omega) ?_ | refine gJ rfl ?_ | refine gK (by omega) ?_ | refine gL (by omega) ?_ | refine gK rfl ?_ | refine gO ?_); conv => whnf))
                                        refine ⟨⟨rowsSz_cons rfl rowsSz_nil, rfl⟩, fitN (n := (tblRows (aliveT v (c.items.take k))).length + 1) (b := 48) (by omega) (by omega), .inl ⟨rfl, rfl, ?_⟩⟩
                                        conv => whnf
                                        repeat (first | refine gA ?_ | refine gB ?_ | refine gC rfl ?_ | refine gD rfl ?_ | ((first | refine gE env hN (by kernel_rfl) ?_ | refine gF ?_ | refine gG ?_ | refine gH fun hlen => ?_ | refine gI (by kernel_rfl) ?_ | refine gN rfl ?_ | refine gN (by omega) ?_ | refine gJ rfl ?_ | refine gK (by omega) ?_ | refine gL (by omega) ?_ | refine gK rfl ?_ | refine gO ?_); conv => whnf))
                                        have hn := tblRows_snoc (aliveT v (c.items.take k)) x.tab
                                        rw [← hlk] at hn
                                        refine ⟨_, _, ?_, ⟨k + 1, by omega, rfl, rfl⟩, [(51, 51)], [], [], LeG.mk' rfl rfl rfl ⟨⟨_, .refl _, rfl⟩, ⟨_, .refl _, rfl⟩, ⟨_, .refl _, ?_⟩, ⟨_, .refl _, rfl⟩, ⟨_, .refl _, rfl⟩, ⟨_, .refl _, rfl⟩, trivial⟩ (.cons 51 rfl rfl (.refl _) ?_ .nil) rfl rfl (by rw [hK]; rfl)⟩
                                        · omega
                                        · rw [hn, List.length_append]; rfl
                                        · rw [hn]; rfl
                                        done)
                                      | (
                                        have hp : aliveB v x = false := by simp [aliveB]; omega
                                        rw [hp, if_neg (by simp)] at hlk
                                        refine ⟨_, _, ?_, ⟨k + 1, by omega, rfl, rfl⟩, [(51, 51)], [], [], LeG.mk' rfl rfl rfl ⟨⟨_, .refl _, rfl⟩, ⟨_, .refl _, rfl⟩, ⟨_, .refl _, ?_⟩, ⟨_, .refl _, rfl⟩, ⟨_, .refl _, rfl⟩, ⟨_, .refl _, rfl⟩, trivial⟩ (.cons 51 rfl rfl (.refl _) ?_ .nil) rfl rfl (by rw [hK]; rfl)⟩
                                        · omega
                                        · rw [hlk]; rfl
                                        · rw [hlk]; rfl
                                        done)
                                      | ((refine boolRes_split (fun hb => ?_) (fun hb => ?_) <;> conv => whnf) <;> (
                                    (repeat (first | refine gA ?_ | refine gB ?_ | refine gC rfl ?_ | refine gD rfl ?_ | ((first | refine gE env hN (by kernel_rfl) ?_ | refine gF ?_ | refine gG ?_ | refine gH fun hlen => ?_ | refine gI (by kernel_rfl) ?_ | refine gN rfl ?_ | refine gN (by omega) ?_ | refine gJ rfl ?_ | refine gK (by omega) ?_ | refine gL (by omega) ?_ | refine gK rfl ?_ | refine gO ?_); conv => whnf)))
                                    first
                                      | (
                                        have hp : aliveB v x = true := by simp [aliveB]; omega
                                        rw [hp, if_pos rfl] at hlk
                                        (refine ⟨_, _, _, callG [] [] [] rfl rfl rfl (by kernel_rfl) (sp2) (by repeat' (first | exact trivial | exact Lent.refl _ | exact Lent.norm _ | apply And.intro)) rfl ⟨rfl, rfl, rfl, rfl, rfl, trivial, rfl, rfl⟩, ?_⟩; conv => whnf)
                                        repeat (first | refine gA ?_ | refine gB ?_ | refine gC rfl ?_ | refine gD rfl ?_ | ((first | refine gE env hN (by kernel_rfl) ?_ | refine gF ?_ | refine gG ?_ | refine gH fun hlen => ?_ | refine gI (by kernel_rfl) ?_ | refine gN rfl ?_ | refine gN (by omega) ?_ | refine gJ rfl ?_ | refine gK (by omega) ?_ | refine gL (by omega) ?_ | refine gK rfl ?_ | refine gO ?_); conv => whnf))
                                        refine ⟨⟨rowsSz_cons rfl rowsSz_nil, rfl⟩, fitN (n := (tblRows (aliveT v (c.items.take k))).length + 1) (b := 48) (by omega) (by omega), .inl ⟨rfl, rfl, ?_⟩⟩
                                        conv => whnf
                                        repeat (first | refine gA ?_ | refine gB ?_ | refine gC rfl ?_ | refine gD rfl ?_ | ((first | refine gE env hN (by kernel_rfl) ?_ | refine gF ?_ | refine gG ?_ | refine gH fun hlen => ?_ | refine gI (by kernel_rfl) ?_ | refine gN rfl ?_ | refine gN (by omega) ?_ | refine gJ rfl ?_ | refine gK (by omega) ?_ | refine gL (by omega) ?_ | refine gK rfl ?_ | refine gO ?_); conv => whnf))
                                        have hn := tblRows_snoc (aliveT v (c.items.take k)) x.tab
                                        rw [← hlk] at hn
                                        refine ⟨_, _, ?_, ⟨k + 1, by omega, rfl, rfl⟩, [(51, 51)], [], [], LeG.mk' rfl rfl rfl ⟨⟨_, .refl _, rfl⟩, ⟨_, .refl _, rfl⟩, ⟨_, .refl _, ?_⟩, ⟨_, .refl _, rfl⟩, ⟨_, .refl _, rfl⟩, ⟨_, .refl _, rfl⟩, trivial⟩ (.cons 51 rfl rfl (.refl _) ?_ .nil) rfl rfl (by rw [hK]; rfl)⟩
                                        · omega
                                        · rw [hn, List.length_append]; rfl
                                        · rw [hn]; rfl
                                        done)
                                      | (
                                        have hp : aliveB v x = false := by simp [aliveB]; omega
                                        rw [hp, if_neg (by simp)] at hlk
                                        refine ⟨_, _, ?_, ⟨k + 1, by omega, rfl, rfl⟩, [(51, 51)], [], [], LeG.mk' rfl rfl rfl ⟨⟨_, .refl _, rfl⟩, ⟨_, .refl _, rfl⟩, ⟨_, .refl _, ?_⟩, ⟨_, .refl _, rfl⟩, ⟨_, .refl _, rfl⟩, ⟨_, .refl _, rfl⟩, trivial⟩ (.cons 51 rfl rfl (.refl _) ?_ .nil) rfl rfl (by rw [hK]; rfl)⟩
                                        · omega
                                        · rw [hlk]; rfl
                                        · rw [hlk]; rfl
                                        done)
                                      | ((refine boolRes_split (fun hb => ?_) (fun hb => ?_) <;> conv => whnf) <;> (
                                    (repeat (first | refine gA ?_ | refine gB ?_ | refine gC rfl ?_ | refine gD rfl ?_ | ((first | refine gE env hN (by kernel_rfl) ?_ | refine gF ?_ | refine gG ?_ | refine gH fun hlen => ?_ | refine gI (by kernel_rfl) ?_ | refine gN rfl ?_ | refine gN (by omega) ?_ | refine gJ rfl ?_ | refine gK (by omega) ?_ | refine gL (by omega) ?_ | refine gK rfl ?_ | refine gO ?_); conv => whnf)))
                                    first
                                      | (
                                        have hp : aliveB v x = true := by simp [aliveB]; omega
                                        rw [hp, if_pos rfl] at hlk
                                        (refine ⟨_, _, _, callG [] [] [] rfl rfl rfl (by kernel_rfl) (sp2) (by repeat' (first | exact trivial | exact Lent.refl _ | exact Lent.norm _ | apply And.intro)) rfl ⟨rfl, rfl, rfl, rfl, rfl, trivial, rfl, rfl⟩, ?_⟩; conv => whnf)
                                        repeat (first | refine gA ?_ | refine gB ?_ | refine gC rfl ?_ | refine gD rfl ?_ | ((first | refine gE env hN (by kernel_rfl) ?_ | refine gF ?_ | refine gG ?_ | refine gH fun hlen => ?_ | refine gI (by kernel_rfl) ?_ | refine gN rfl ?_ | refine gN (by omega) ?_ | refine gJ rfl ?_ | refine gK (by omega) ?_ | refine gL (by omega) ?_ | refine gK rfl ?_ | refine gO ?_); conv => whnf))
                                        refine ⟨⟨rowsSz_cons rfl rowsSz_nil, rfl⟩, fitN (n := (tblRows (aliveT v (c.items.take k))).length + 1) (b := 48) (by omega) (by omega), .inl ⟨rfl, rfl, ?_⟩⟩
                                        conv => whnf
                                        repeat (first | refine gA ?_ | refine gB ?_ | refine gC rfl ?_ | refine gD rfl ?_ | ((first | refine gE env hN (by kernel_rfl) ?_ | refine gF ?_ | refine gG ?_ | refine gH fun hlen => ?_ | refine gI (by kernel_rfl) ?_ | refine gN rfl ?_ | refine gN (by omega) ?_ | refine gJ rfl ?_ | refine gK (by omega) ?_ | refine gL (by omega) ?_ | refine gK rfl ?_ | refine gO ?_); conv => whnf))
                                        have hn := tblRows_snoc (aliveT v (c.items.take k)) x.tab
                                        rw [← hlk] at hn
                                        refine ⟨_, _, ?_, ⟨k + 1, by omega, rfl, rfl⟩, [(51, 51)], [], [], LeG.mk' rfl rfl rfl ⟨⟨_, .refl _, rfl⟩, ⟨_, .refl _, rfl⟩, ⟨_, .refl _, ?_⟩, ⟨_, .refl _, rfl⟩, ⟨_, .refl _, rfl⟩, ⟨_, .refl _, rfl⟩, trivial⟩ (.cons 51 rfl rfl (.refl _) ?_ .nil) rfl rfl (by rw [hK]; rfl)⟩
                                        · omega
                                        · rw [hn, List.length_append]; rfl
                                        · rw [hn]; rfl
                                        done)
                                      | (
                                        have hp : aliveB v x = false := by simp [aliveB]; omega
                                        rw [hp, if_neg (by simp)] at hlk
                                        refine ⟨_, _, ?_, ⟨k + 1, by omega, rfl, rfl⟩, [(51, 51)], [], [], LeG.mk' rfl rfl rfl ⟨⟨_, .refl _, rfl⟩, ⟨_, .refl _, rfl⟩, ⟨_, .refl _, ?_⟩, ⟨_, .refl _, rfl⟩, ⟨_, .refl _, rfl⟩, ⟨_, .refl _, rfl⟩, trivial⟩ (.cons 51 rfl rfl (.refl _) ?_ .nil) rfl rfl (by rw [hK]; rfl)⟩
                                        · omega
                                        · rw [hlk]; rfl
                                        · rw [hlk]; rfl
                                        done)
                                      | ((refine boolRes_split (fun hb => ?_) (fun hb => ?_) <;> conv => whnf) <;> (
                                    (repeat (first | refine gA ?_ | refine gB ?_ | refine gC rfl ?_ | refine gD rfl ?_ | ((first | refine gE env hN (by kernel_rfl) ?_ | refine gF ?_ | refine gG ?_ | refine gH fun hlen => ?_ | refine gI (by kernel_rfl) ?_ | refine gN rfl ?_ | refine gN (by omega) ?_ | refine gJ rfl ?_ | refine gK (by omega) ?_ | refine gL (by omega) ?_ | refine gK rfl ?_ | refine gO ?_); conv => whnf)))
                                    first
                                      | (
                                        have hp : aliveB v x = true := by simp [aliveB]; omega
                                        rw [hp, if_pos rfl] at hlk
                                        (refine ⟨_, _, _, callG [] [] [] rfl rfl rfl (by kernel_rfl) (sp2) (by repeat' (first | exact trivial | exact Lent.refl _ | exact Lent.norm _ | apply And.intro)) rfl ⟨rfl, rfl, rfl, rfl, rfl, trivial, rfl, rfl⟩, ?_⟩; conv => whnf)
                                        repeat (first | refine gA ?_ | refine gB ?_ | refine gC rfl ?_ | refine gD rfl ?_ | ((first | refine gE env hN (by kernel_rfl) ?_ | refine gF ?_ | refine gG ?_ | refine gH fun hlen => ?_ | refine gI (by kernel_rfl) ?_ | refine gN rfl ?_ | refine gN (by omega) ?_ | refine gJ rfl ?_ | refine gK (by omega) ?_ | refine gL (by omega) ?_ | refine gK rfl ?_ | refine gO ?_); conv => whnf))
                                        refine ⟨⟨rowsSz_cons rfl rowsSz_nil, rfl⟩, fitN (n := (tblRows (aliveT v (c.items.take k))).length + 1) (b := 48) (by omega) (by omega), .inl ⟨rfl, rfl, ?_⟩⟩
                                        conv => whnf
                                        repeat (first | refine gA ?_ | refine gB ?_ | refine gC rfl ?_ | refine gD rfl ?_ | ((first | refine gE env hN (by kernel_rfl) ?_ | refine gF ?_ | refine gG ?_ | refine gH fun hlen => ?_ | refine gI (by kernel_rfl) ?_ | refine gN rfl ?_ | refine gN (by omega) ?_ | refine gJ rfl ?_ | refine gK (by omega) ?_ | refine gL (by omega) ?_ | refine gK rfl ?_ | refine gO ?_); conv => whnf))
                                        have hn := tblRows_snoc (aliveT v (c.items.take k)) x.tab
                                        rw [← hlk] at hn
                                        refine ⟨_, _, ?_, ⟨k + 1, by omega, rfl, rfl⟩, [(51, 51)], [], [], LeG.mk' rfl rfl rfl ⟨⟨_, .refl _, rfl⟩, ⟨_, .refl _, rfl⟩, ⟨_, .refl _, ?_⟩, ⟨_, .refl _, rfl⟩, ⟨_, .refl _, rfl⟩, ⟨_, .refl _, rfl⟩, trivial⟩ (.cons 51 rfl rfl (.refl _) ?_ .nil) rfl rfl (by rw [hK]; rfl)⟩
                                        · omega
                                        · rw [hn, List.length_append]; rfl
                                        · rw [hn]; rfl
                                        done)
                                      | (
                                        have hp : aliveB v x = false := by simp [aliveB]; omega
                                        rw [hp, if_neg (by simp)] at hlk
                                        refine ⟨_, _, ?_, ⟨k + 1, by omega, rfl, rfl⟩, [(51, 51)], [], [], LeG.mk' rfl rfl rfl ⟨⟨_, .refl _, rfl⟩, ⟨_, .refl _, rfl⟩, ⟨_, .refl _, ?_⟩, ⟨_, .refl _, rfl⟩, ⟨_, .refl _, rfl⟩, ⟨_, .refl _, rfl⟩, trivial⟩ (.cons 51 rfl rfl (.refl _) ?_ .nil) rfl rfl (by rw [hK]; rfl)⟩
                                        · omega
                                        · rw [hlk]; rfl
                                        · rw [hlk]; rfl
                                        done)
                                      | ((refine boolRes_split (fun hb => ?_) (fun hb => ?_) <;> conv => whnf) <;> (
                                    (repeat (first | refine gA ?_ | refine gB ?_ | refine gC rfl ?_ | refine gD rfl ?_ | ((first | refine gE env hN (by kernel_rfl) ?_ | refine gF ?_ | refine gG ?_ | refine gH fun hlen => ?_ | refine gI (by kernel_rfl) ?_ | refine gN rfl ?_ | refine gN (by omega) ?_ | refine gJ rfl ?_ | refine gK (by omega) ?_ | refine gL (by omega) ?_ | refine gK rfl ?_ | refine gO ?_); conv => whnf)))
                                    first
                                      | (
                                        have hp : aliveB v x = true := by simp [aliveB]; omega
                                        rw [hp, if_pos rfl] at hlk
                                        (refine ⟨_, _, _, callG [] [] [] rfl rfl rfl (by kernel_rfl) (sp2) (by repeat' (first | exact trivial | exact Lent.refl _ | exact Lent.norm _ | apply And.intro)) rfl ⟨rfl, rfl, rfl, rfl, rfl, trivial, rfl, rfl⟩, ?_⟩; conv => whnf)
                                        repeat (first | refine gA ?_ | refine gB ?_ | refine gC rfl ?_ | refine gD rfl ?_ | ((first | refine gE env hN (by kernel_rfl) ?_ | refine gF ?_ | refine gG ?_ | refine gH fun hlen => ?_ | refine gI (by kernel_rfl) ?_ | refine gN rfl ?_ | refine gN (by omega) ?_ | refine gJ rfl ?_ | refine gK (by omega) ?_ | refine gL (by omega) ?_ | refine gK rfl ?_ | refine gO ?_); conv => whnf))
                                        refine ⟨⟨rowsSz_cons rfl rowsSz_nil, rfl⟩, fitN (n := (tblRows (aliveT v (c.items.take k))).length + 1) (b := 48) (by omega) (by omega), .inl ⟨rfl, rfl, ?_⟩⟩
                                        conv => whnf
                                        repeat (first | refine gA ?_ | refine gB ?_ | refine gC rfl ?_ | refine gD rfl ?_ | ((first | refine gE env hN (by kernel_rfl) ?_ | refine gF ?_ | refine gG ?_ | refine gH fun hlen => ?_ | refine gI (by kernel_rfl) ?_ | refine gN rfl ?_ | refine gN (by omega) ?_ | refine gJ rfl ?_ | refine gK (by omega) ?_ | refine gL (by omega) ?_ | refine gK rfl ?_ | refine gO ?_); conv => whnf))
                                        have hn := tblRows_snoc (aliveT v (c.items.take k)) x.tab
                                        rw [← hlk] at hn
                                        refine ⟨_, _, ?_, ⟨k + 1, by omega, rfl, rfl⟩, [(51, 51)], [], [], LeG.mk' rfl rfl rfl ⟨⟨_, .refl _, rfl⟩, ⟨_, .refl _, rfl⟩, ⟨_, .refl _, ?_⟩, ⟨_, .refl _, rfl⟩, ⟨_, .refl _, rfl⟩, ⟨_, .refl _, rfl⟩, trivial⟩ (.cons 51 rfl rfl (.refl _) ?_ .nil) rfl rfl (by rw [hK]; rfl)⟩
                                        · omega
                                        · rw [hn, List.length_append]; rfl
                                        · rw [hn]; rfl
                                        done)
                                      | (
                                        have hp : aliveB v x = false := by simp [aliveB]; omega
                                        rw [hp, if_neg (by simp)] at hlk
                                        refine ⟨_, _, ?_, ⟨k + 1, by omega, rfl, rfl⟩, [(51, 51)], [], [], LeG.mk' rfl rfl rfl ⟨⟨_, .refl _, rfl⟩, ⟨_, .refl _, rfl⟩, ⟨_, .refl _, ?_⟩, ⟨_, .refl _, rfl⟩, ⟨_, .refl _, rfl⟩, ⟨_, .refl _, rfl⟩, trivial⟩ (.cons 51 rfl rfl (.refl _) ?_ .nil) rfl rfl (by rw [hK]; rfl)⟩
                                        · omega
                                        · rw [hlk]; rfl
                                        · rw [hlk]; rfl
                                        done)
                                      | ((refine boolRes_split (fun hb => ?_) (fun hb => ?_) <;> conv => whnf) <;> (
                                    (repeat (first | refine gA ?_ | refine gB ?_ | refine gC rfl ?_ | refine gD rfl ?_ | ((first | refine gE env hN (by kernel_rfl) ?_ | refine gF ?_ | refine gG ?_ | refine gH fun hlen => ?_ | refine gI (by kernel_rfl) ?_ | refine gN rfl ?_ | refine gN (by omega) ?_ | refine gJ rfl ?_ | refine gK (by omega) ?_ | refine gL (by omega) ?_ | refine gK rfl ?_ | refine gO ?_); conv => whnf)))
                                    first
                                      | (
                                        have hp : aliveB v x = true := by simp [aliveB]; omega
                                        rw [hp, if_pos rfl] at hlk
                                        (refine ⟨_, _, _, callG [] [] [] rfl rfl rfl (by kernel_rfl) (sp2) (by repeat' (first | exact trivial | exact Lent.refl _ | exact Lent.norm _ | apply And.intro)) rfl ⟨rfl, rfl, rfl, rfl, rfl, trivial, rfl, rfl⟩, ?_⟩; conv => whnf)
                                        repeat (first | refine gA ?_ | refine gB ?_ | refine gC rfl ?_ | refine gD rfl ?_ | ((first | refine gE env hN (by kernel_rfl) ?_ | refine gF ?_ | refine gG ?_ | refine gH fun hlen => ?_ | refine gI (by kernel_rfl) ?_ | refine gN rfl ?_ | refine gN (by omega) ?_ | refine gJ rfl ?_ | refine gK (by omega) ?_ | refine gL (by omega) ?_ | refine gK rfl ?_ | refine gO ?_); conv => whnf))
                                        refine ⟨⟨rowsSz_cons rfl rowsSz_nil, rfl⟩, fitN (n := (tblRows (aliveT v (c.items.take k))).length + 1) (b := 48) (by omega) (by omega), .inl ⟨rfl, rfl, ?_⟩⟩
                                        conv => whnf
                                        repeat (first | refine gA ?_ | refine gB ?_ | refine gC rfl ?_ | refine gD rfl ?_ | ((first | refine gE env hN (by kernel_rfl) ?_ | refine gF ?_ | refine gG ?_ | refine gH fun hlen => ?_ | refine gI (by kernel_rfl) ?_ | refine gN rfl ?_ | refine gN (by omega) ?_ | refine gJ rfl ?_ | refine gK (by omega) ?_ | refine gL (by omega) ?_ | refine gK rfl ?_ | refine gO ?_); conv => whnf))
                                        have hn := tblRows_snoc (aliveT v (c.items.take k)) x.tab
                                        rw [← hlk] at hn
                                        refine ⟨_, _, ?_, ⟨k + 1, by omega, rfl, rfl⟩, [(51, 51)], [], [], LeG.mk' rfl rfl rfl ⟨⟨_, .refl _, rfl⟩, ⟨_, .refl _, rfl⟩, ⟨_, .refl _, ?_⟩, ⟨_, .refl _, rfl⟩, ⟨_, .refl _, rfl⟩, ⟨_, .refl _, rfl⟩, trivial⟩ (.cons 51 rfl rfl (.refl _) ?_ .nil) rfl rfl (by rw [hK]; rfl)⟩
                                        · omega
                                        · rw [hn, List.length_append]; rfl
                                        · rw [hn]; rfl
                                        done)
                                      | (
                                        have hp : aliveB v x = false := by simp [aliveB]; omega
                                        rw [hp, if_neg (by simp)] at hlk
                                        refine ⟨_, _, ?_, ⟨k + 1, by omega, rfl, rfl⟩, [(51, 51)], [], [], LeG.mk' rfl rfl rfl ⟨⟨_, .refl _, rfl⟩, ⟨_, .refl _, rfl⟩, ⟨_, .refl _, ?_⟩, ⟨_, .refl _, rfl⟩, ⟨_, .refl _, rfl⟩, ⟨_, .refl _, rfl⟩, trivial⟩ (.cons 51 rfl rfl (.refl _) ?_ .nil) rfl rfl (by rw [hK]; rfl)⟩
                                        · omega
                                        · rw [hlk]; rfl
                                        · rw [hlk]; rfl
                                        done)
                                      | ((refine boolRes_split (fun hb => ?_) (fun hb => ?_) <;> conv => whnf) <;> (
                                    (repeat (first | refine gA ?_ | refine gB ?_ | refine gC rfl ?_ | refine gD rfl ?_ | ((first | refine gE env hN (by kernel_rfl) ?_ | refine gF ?_ | refine gG ?_ | refine gH fun hlen => ?_ | refine gI (by kernel_rfl) ?_ | refine gN rfl ?_ | refine gN (by omega) ?_ | refine gJ rfl ?_ | refine gK (by omega) ?_ | refine gL (by omega) ?_ | refine gK rfl ?_ | refine gO ?_); conv => whnf)))
                                    first
                                      | (
                                        have hp : aliveB v x = true := by simp [aliveB]; omega
                                        rw [hp, if_pos rfl] at hlk
                                        (refine ⟨_, _, _, callG [] [] [] rfl rfl rfl (by kernel_rfl) (sp2) (by repeat' (first | exact trivial | exact Lent.refl _ | exact Lent.norm _ | apply And.intro)) rfl ⟨rfl, rfl, rfl, rfl, rfl, trivial, rfl, rfl⟩, ?_⟩; conv => whnf)
                                        repeat (first | refine gA ?_ | refine gB ?_ | refine gC rfl ?_ | refine gD rfl ?_ | ((first | refine gE env hN (by kernel_rfl) ?_ | refine gF ?_ | refine gG ?_ | refine gH fun hlen => ?_ | refine gI (by kernel_rfl) ?_ | refine gN rfl ?_ | refine gN (by omega) ?_ | refine gJ rfl ?_ | refine gK (by omega) ?_ | refine gL (by omega) ?_ | refine gK rfl ?_ | refine gO ?_); conv => whnf))
                                        refine ⟨⟨rowsSz_cons rfl rowsSz_nil, rfl⟩, fitN (n := (tblRows (aliveT v (c.items.take k))).length + 1) (b := 48) (by omega) (by omega), .inl ⟨rfl, rfl, ?_⟩⟩
                                        conv => whnf
                                        repeat (first | refine gA ?_ | refine gB ?_ | refine gC rfl ?_ | refine gD rfl ?_ | ((first | refine gE env hN (by kernel_rfl) ?_ | refine gF ?_ | refine gG ?_ | refine gH fun hlen => ?_ | refine gI (by kernel_rfl) ?_ | refine gN rfl ?_ | refine gN (by omega) ?_ | refine gJ rfl ?_ | refine gK (by omega) ?_ | refine gL (by omega) ?_ | refine gK rfl ?_ | refine gO ?_); conv => whnf))
                                        have hn := tblRows_snoc (aliveT v (c.items.take k)) x.tab
                                        rw [← hlk] at hn
                                        refine ⟨_, _, ?_, ⟨k + 1, by omega, rfl, rfl⟩, [(51, 51)], [], [], LeG.mk' rfl rfl rfl ⟨⟨_, .refl _, rfl⟩, ⟨_, .refl _, rfl⟩, ⟨_, .refl _, ?_⟩, ⟨_, .refl _, rfl⟩, ⟨_, .refl _, rfl⟩, ⟨_, .refl _, rfl⟩, trivial⟩ (.cons 51 rfl rfl (.refl _) ?_ .nil) rfl rfl (by rw [hK]; rfl)⟩
                                        · omega
                                        · rw [hn, List.length_append]; rfl
                                        · rw [hn]; rfl
                                        done)
                                      | (
                                        have hp : aliveB v x = false := by simp [aliveB]; omega
                                        rw [hp, if_neg (by simp)] at hlk
                                        refine ⟨_, _, ?_, ⟨k + 1, by omega, rfl, rfl⟩, [(51, 51)], [], [], LeG.mk' rfl rfl rfl ⟨⟨_, .refl _, rfl⟩, ⟨_, .refl _, rfl⟩, ⟨_, .refl _, ?_⟩, ⟨_, .refl _, rfl⟩, ⟨_, .refl _, rfl⟩, ⟨_, .refl _, rfl⟩, trivial⟩ (.cons 51 rfl rfl (.refl _) ?_ .nil) rfl rfl (by rw [hK]; rfl)⟩
                                        · omega
                                        · rw [hlk]; rfl
                                        · rw [hlk]; rfl
                                        done)
                                      | ((refine boolRes_split (fun hb => ?_) (fun hb => ?_) <;> conv => whnf) <;> (
                                    (repeat (first | refine gA ?_ | refine gB ?_ | refine gC rfl ?_ | refine gD rfl ?_ | ((first | refine gE env hN (by kernel_rfl) ?_ | refine gF ?_ | refine gG ?_ | refine gH fun hlen => ?_ | refine gI (by kernel_rfl) ?_ | refine gN rfl ?_ | refine gN (by omega) ?_ | refine gJ rfl ?_ | refine gK (by omega) ?_ | refine gL (by omega) ?_ | refine gK rfl ?_ | refine gO ?_); conv => whnf)))
                                    first
                                      | (
                                        have hp : aliveB v x = true := by simp [aliveB]; omega
                                        rw [hp, if_pos rfl] at hlk
                                        (refine ⟨_, _, _, callG [] [] [] rfl rfl rfl (by kernel_rfl) (sp2) (by repeat' (first | exact trivial | exact Lent.refl _ | exact Lent.norm _ | apply And.intro)) rfl ⟨rfl, rfl, rfl, rfl, rfl, trivial, rfl, rfl⟩, ?_⟩; conv => whnf)
                                        repeat (first | refine gA ?_ | refine gB ?_ | refine gC rfl ?_ | refine gD rfl ?_ | ((first | refine gE env hN (by kernel_rfl) ?_ | refine gF ?_ | refine gG ?_ | refine gH fun hlen => ?_ | refine gI (by kernel_rfl) ?_ | refine gN rfl ?_ | refine gN (by omega) ?_ | refine gJ rfl ?_ | refine gK (by omega) ?_ | refine gL (by omega) ?_ | refine gK rfl ?_ | refine gO ?_); conv => whnf))
                                        refine ⟨⟨rowsSz_cons rfl rowsSz_nil, rfl⟩, fitN (n := (tblRows (aliveT v (c.items.take k))).length + 1) (b := 48) (by omega) (by omega), .inl ⟨rfl, rfl, ?_⟩⟩
                                        conv => whnf
                                        repeat (first | refine gA ?_ | refine gB ?_ | refine gC rfl ?_ | refine gD rfl ?_ | ((first | refine gE env hN (by kernel_rfl) ?_ | refine gF ?_ | refine gG ?_ | refine gH fun hlen => ?_ | refine gI (by kernel_rfl) ?_ | refine gN rfl ?_ | refine gN (by omega) ?_ | refine gJ rfl ?_ | refine gK (by omega) ?_ | refine gL (by omega) ?_ | refine gK rfl ?_ | refine gO ?_); conv => whnf))
                                        have hn := tblRows_snoc (aliveT v (c.items.take k)) x.tab
                                        rw [← hlk] at hn
                                        refine ⟨_, _, ?_, ⟨k + 1, by omega, rfl, rfl⟩, [(51, 51)], [], [], LeG.mk' rfl rfl rfl ⟨⟨_, .refl _, rfl⟩, ⟨_, .refl _, rfl⟩, ⟨_, .refl _, ?_⟩, ⟨_, .refl _, rfl⟩, ⟨_, .refl _, rfl⟩, ⟨_, .refl _, rfl⟩, trivial⟩ (.cons 51 rfl rfl (.refl _) ?_ .nil) rfl rfl (by rw [hK]; rfl)⟩
                                        · omega
                                        · rw [hn, List.length_append]; rfl
                                        · rw [hn]; rfl
                                        done)
                                      | (
                                        have hp : aliveB v x = false := by simp [aliveB]; omega
                                        rw [hp, if_neg (by simp)] at hlk
                                        refine ⟨_, _, ?_, ⟨k + 1, by omega, rfl, rfl⟩, [(51, 51)], [], [], LeG.mk' rfl rfl rfl ⟨⟨_, .refl _, rfl⟩, ⟨_, .refl _, rfl⟩, ⟨_, .refl _, ?_⟩, ⟨_, .refl _, rfl⟩, ⟨_, .refl _, rfl⟩, ⟨_, .refl _, rfl⟩, trivial⟩ (.cons 51 rfl rfl (.refl _) ?_ .nil) rfl rfl (by rw [hK]; rfl)⟩
                                        · omega
                                        · rw [hlk]; rfl
                                        · rw [hlk]; rfl
                                        done)
                                      | ((refine boolRes_split (fun hb => ?_) (fun hb => ?_) <;> conv => whnf) <;> fail))))))))))))))))))
    · have hke : k = c.items.length := by omega
      subst hke
      rw [List.take_length]
      have hal := aliveT_len v c.items
      have sp3 := sortFunc_spec (aliveT v c.items) (by omega)
      have hlenR : (tblRows (aliveT v c.items)).length = (tblRows (sortT (aliveT v c.items))).length := by simp [tblRows, sortT_len]
      repeat (first | refine gA ?_ | refine gB ?_ | refine gC rfl ?_ | refine gD rfl ?_ | ((first | refine gE env hN (by kernel_rfl) ?_ | refine gF ?_ | refine gG ?_ | refine gH fun hlen => ?_ | refine gI (by kernel_rfl) ?_ | refine gN rfl ?_ | refine gN (by omega) ?_ | refine gJ rfl ?_ | refine gK (by omega) ?_ | refine gL (by omega) ?_ | refine gK rfl ?_ | refine gO ?_); conv => whnf))
      (refine ⟨_, _, _, callG [(0, 51)] [] [] rfl rfl rfl (by kernel_rfl) (sp3) (by repeat' (first | exact trivial | exact Lent.refl _ | exact Lent.norm _ | apply And.intro)) rfl ⟨rfl, rfl, rfl, rfl, rfl, by repeat' (first | exact trivial | rfl | apply And.intro), rfl, rfl⟩, ?_⟩; conv => whnf)
      repeat (first | refine gA ?_ | refine gB ?_ | refine gC rfl ?_ | refine gD rfl ?_ | ((first | refine gE env hN (by kernel_rfl) ?_ | refine gF ?_ | refine gG ?_ | refine gH fun hlen => ?_ | refine gI (by kernel_rfl) ?_ | refine gN rfl ?_ | refine gN (by omega) ?_ | refine gJ rfl ?_ | refine gK (by omega) ?_ | refine gL (by omega) ?_ | refine gK rfl ?_ | refine gO ?_); conv => whnf))
      refine W.leG (mp := []) (bo := [51]) (st' := ⟨[(4, .sl (tblRows (sortT (aliveT v c.items))) false), (5, .int .i64 0)], [], []⟩) (LeG.mk' rfl rfl rfl ⟨⟨_, Lent.whole rfl rfl hlenR rfl (.inl rfl), rfl⟩, ⟨_, .refl _, rfl⟩, trivial⟩ .nil rfl rfl (by rw [hK]; rfl)) ?_
      (refine gM ?_; conv => whnf)
      exact ret0 rfl rfl rfl
end Go.Sx.Sp
namespace Go.Sx.Sp
open Go Go.Sx Go.Proofs
attribute [local irreducible] GoodW
theorem rowsSz_sub {l : List (List V)} {a b n : Nat} (h : rowsSz l n) : rowsSz (List.drop a (List.take b l)) n := by
  unfold rowsSz at *
  exact fun r hr => h r (List.mem_of_mem_take (List.mem_of_mem_drop hr))
set_option maxHeartbeats 8000000 in
theorem at41_spec (c : Coll) (v : Int) : Spec Tryd.prog 43 [.agg c.row, .int .i64 v] [] (.tup [.sl (tblRows (atM c v).1) false, .int .i64 (atM c v).2]) [] := by
  have sp1 := valid41_spec c
  have hcl := itemRows_len c.items
  refine Spec.body env Tryd.func43 rfl (by kernel_rfl) (Nat.le_of_ble_eq_true (by kernel_rfl)) (keysSub rfl) fun Γ hN hK => ?_; have hML : maxLen = 9223372036854775807 := by unfold maxLen; rfl
  cases h1 : collB c with
  | false =>
    rw [h1] at sp1
    repeat (first | refine gA ?_ | refine gB ?_ | refine gC rfl ?_ | refine gD rfl ?_ | ((first | refine gE env hN (by kernel_rfl) ?_ | refine gF ?_ | refine gG ?_ | refine gH fun hlen => ?_ | refine gI (by kernel_rfl) ?_ | refine gN rfl ?_ | refine gN (by omega) ?_ | refine gJ rfl ?_ | refine gK (by omega) ?_ | refine gL (by omega) ?_ | refine gK rfl ?_ | refine gO ?_); conv => whnf))
    (refine ⟨_, _, _, callG [] [] [] rfl rfl rfl (by kernel_rfl) (sp1) (by repeat' (first | exact trivial | exact Lent.refl _ | exact Lent.norm _ | apply And.intro)) rfl ⟨rfl, rfl, rfl, rfl, rfl, trivial, rfl, rfl⟩, ?_⟩; conv => whnf)
    repeat (first | refine gA ?_ | refine gB ?_ | refine gC rfl ?_ | refine gD rfl ?_ | ((first | refine gE env hN (by kernel_rfl) ?_ | refine gF ?_ | refine gG ?_ | refine gH fun hlen => ?_ | refine gI (by kernel_rfl) ?_ | refine gN rfl ?_ | refine gN (by omega) ?_ | refine gJ rfl ?_ | refine gK (by omega) ?_ | refine gL (by omega) ?_ | refine gK rfl ?_ | refine gO ?_ | refine gM ?_); conv => whnf))
    exact ret0 rfl (by rw [show atM c v = ([], 1) by simp [atM, h1]]; rfl) rfl
  | true =>
    rw [h1] at sp1
    repeat (first | refine gA ?_ | refine gB ?_ | refine gC rfl ?_ | refine gD rfl ?_ | ((first | refine gE env hN (by kernel_rfl) ?_ | refine gF ?_ | refine gG ?_ | refine gH fun hlen => ?_ | refine gI (by kernel_rfl) ?_ | refine gN rfl ?_ | refine gN (by omega) ?_ | refine gJ rfl ?_ | refine gK (by omega) ?_ | refine gL (by omega) ?_ | refine gK rfl ?_ | refine gO ?_); conv => whnf))
    (refine ⟨_, _, _, callG [] [] [] rfl rfl rfl (by kernel_rfl) (sp1) (by repeat' (first | exact trivial | exact Lent.refl _ | exact Lent.norm _ | apply And.intro)) rfl ⟨rfl, rfl, rfl, rfl, rfl, trivial, rfl, rfl⟩, ?_⟩; conv => whnf)
    repeat (first | refine gA ?_ | refine gB ?_ | refine gC rfl ?_ | refine gD rfl ?_ | ((first | refine gE env hN (by kernel_rfl) ?_ | refine gF ?_ | refine gG ?_ | refine gH fun hlen => ?_ | refine gI (by kernel_rfl) ?_ | refine gN rfl ?_ | refine gN (by omega) ?_ | refine gJ rfl ?_ | refine gK (by omega) ?_ | refine gL (by omega) ?_ | refine gK rfl ?_ | refine gO ?_); conv => whnf))
    refine boolRes_split (fun hb => ?_) (fun hb => ?_) <;> conv => whnf
    · repeat (first | refine gA ?_ | refine gB ?_ | refine gC rfl ?_ | refine gD rfl ?_ | ((first | refine gE env hN (by kernel_rfl) ?_ | refine gF ?_ | refine gG ?_ | refine gH fun hlen => ?_ | refine gI (by kernel_rfl) ?_ | refine gN rfl ?_ | refine gN (by omega) ?_ | refine gJ rfl ?_ | refine gK (by omega) ?_ | refine gL (by omega) ?_ | refine gK rfl ?_ | refine gO ?_ | refine gM ?_); conv => whnf))
      exact ret0 rfl (by rw [show atM c v = ([], 23) by simp [atM, h1, hb]]; rfl) rfl
    repeat (first | refine gA ?_ | refine gB ?_ | refine gC rfl ?_ | refine gD rfl ?_ | ((first | refine gE env hN (by kernel_rfl) ?_ | refine gF ?_ | refine gG ?_ | refine gH fun hlen => ?_ | refine gI (by kernel_rfl) ?_ | refine gN rfl ?_ | refine gN (by omega) ?_ | refine gJ rfl ?_ | refine gK (by omega) ?_ | refine gL (by omega) ?_ | refine gK rfl ?_ | refine gO ?_); conv => whnf))
    refine boolRes_split (fun hb => ?_) (fun hb => ?_) <;> conv => whnf
    · repeat (first | refine gA ?_ | refine gB ?_ | refine gC rfl ?_ | refine gD rfl ?_ | ((first | refine gE env hN (by kernel_rfl) ?_ | refine gF ?_ | refine gG ?_ | refine gH fun hlen => ?_ | refine gI (by kernel_rfl) ?_ | refine gN rfl ?_ | refine gN (by omega) ?_ | refine gJ rfl ?_ | refine gK (by omega) ?_ | refine gL (by omega) ?_ | refine gK rfl ?_ | refine gO ?_ | refine gM ?_); conv => whnf))
      exact ret0 rfl (by rw [show atM c v = ([], 23) by simp [atM, h1, hb]]; rfl) rfl
    have hm : atM c v = (sortT (aliveT v c.items), 0) := by
      have : ¬ (v < c.oldest ∨ c.version < v) := by omega
      simp [atM, h1, this]
    rw [hm]
    have hfew := collB_few h1
    have hf1 := hfew.1
    repeat (first | refine gA ?_ | refine gB ?_ | refine gC rfl ?_ | refine gD rfl ?_ | ((first | refine gE env hN (by kernel_rfl) ?_ | refine gF ?_ | refine gG ?_ | refine gH fun hlen => ?_ | refine gI (by kernel_rfl) ?_ | refine gN rfl ?_ | refine gN (by omega) ?_ | refine gJ rfl ?_ | refine gK (by omega) ?_ | refine gL (by omega) ?_ | refine gK rfl ?_ | refine gO ?_); conv => whnf))
    refine W.loopG (fun n st => ∃ k : Nat, k ≤ c.items.length ∧ n = c.items.length - k ∧ st = ⟨[(1, .int .i64 v), (5, .int .i64 0), (6, .sl (tblRows (sortT (aliveT v (c.items.take k)))) false), (26, .sl (itemRows c.items) false), (27, .int .i64 (itemRows c.items).length), (28, .int .i64 k)], [], []⟩)
      c.items.length _ ⟨0, Nat.zero_le _, rfl, rfl⟩ ⟨[], [], [], LeG.mk' rfl rfl rfl (⟨⟨_, .refl _, rfl⟩, ⟨_, .refl _, rfl⟩, ⟨_, .norm _, rfl⟩, ⟨_, .refl _, rfl⟩, ⟨_, .refl _, rfl⟩, ⟨_, .refl _, rfl⟩, trivial⟩) .nil rfl rfl (by rw [hK]; rfl)⟩ ?_
    rintro n st ⟨k, hk, rfl, rfl⟩
    repeat (first | refine gA ?_ | refine gB ?_ | refine gC rfl ?_ | refine gD rfl ?_ | ((first | refine gE env hN (by kernel_rfl) ?_ | refine gF ?_ | refine gG ?_ | refine gH fun hlen => ?_ | refine gI (by kernel_rfl) ?_ | refine gN rfl ?_ | refine gN (by omega) ?_ | refine gJ rfl ?_ | refine gK (by omega) ?_ | refine gL (by omega) ?_ | refine gK rfl ?_ | refine gO ?_); conv => whnf))
    refine boolRes_split (fun hb => ?_) (fun hb => ?_) <;> conv => whnf
    · have hlt : k < c.items.length := by omega
      have hx := itemRows_get hlt
      have hlk := aliveT_snoc (v := v) hlt
      have hfx := hfew.2 _ (List.getElem_mem hlt)
      have hlim : (aliveT v (c.items.take k)).length ≤ k := by
        have h2 := aliveT_len v (c.items.take k)
        have h3 : (c.items.take k).length ≤ k := by simp; omega
        omega
      have hsl := sortT_len (aliveT v (c.items.take k))
      generalize c.items[k] = x at *
      have sp2 := copy38_spec x.tab hfx
      repeat (first | refine gA ?_ | refine gB ?_ | refine gC rfl ?_ | refine gD rfl ?_ | ((first | refine gE env hN (by kernel_rfl) ?_ | refine gF ?_ | refine gG ?_ | refine gH fun hlen => ?_ | refine gI (by kernel_rfl) ?_ | refine gN rfl ?_ | refine gN (by omega) ?_ | refine gJ rfl ?_ | refine gK (by omega) ?_ | refine gL (by omega) ?_ | refine gK rfl ?_ | refine gO ?_); conv => whnf))
      refine rowAt_of (by simpa using hx) ?_
      conv => whnf
      repeat (first | refine gA ?_ | refine gB ?_ | refine gC rfl ?_ | refine gD rfl ?_ | ((first | refine gE env hN (by kernel_rfl) ?_ | refine gF ?_ | refine gG ?_ | refine gH fun hlen => ?_ | refine gI (by kernel_rfl) ?_ | refine gN rfl ?_ | refine gN (by omega) ?_ | refine gJ rfl ?_ | refine gK (by omega) ?_ | refine gL (by omega) ?_ | refine gK rfl ?_ | refine gO ?_); conv => whnf))
      refine boolRes_split (fun hb => ?_) (fun hb => ?_) <;> conv => whnf
      · repeat (first | refine gA ?_ | refine gB ?_ | refine gC rfl ?_ | refine gD rfl ?_ | ((first | refine gE env hN (by kernel_rfl) ?_ | refine gF ?_ | refine gG ?_ | refine gH fun hlen => ?_ | refine gI (by kernel_rfl) ?_ | refine gN rfl ?_ | refine gN (by omega) ?_ | refine gJ rfl ?_ | refine gK (by omega) ?_ | refine gL (by omega) ?_ | refine gK rfl ?_ | refine gO ?_); conv => whnf))
        have hp : aliveB v x = false := by simp [aliveB]; omega
        rw [hp, if_neg (by simp)] at hlk
        refine ⟨_, _, ?_, ⟨k + 1, by omega, rfl, rfl⟩, [], [], [], LeG.mk' rfl rfl rfl ⟨⟨_, .refl _, rfl⟩, ⟨_, .refl _, rfl⟩, ⟨_, .refl _, ?_⟩, ⟨_, .refl _, rfl⟩, ⟨_, .refl _, rfl⟩, ⟨_, .refl _, rfl⟩, trivial⟩ .nil rfl rfl (by rw [hK]; rfl)⟩
        · omega
        · rw [hlk]; rfl
      · repeat (first | refine gA ?_ | refine gB ?_ | refine gC rfl ?_ | refine gD rfl ?_ | ((first | refine gE env hN (by kernel_rfl) ?_ | refine gF ?_ | refine gG ?_ | refine gH fun hlen => ?_ | refine gI (by kernel_rfl) ?_ | refine gN rfl ?_ | refine gN (by omega) ?_ | refine gJ rfl ?_ | refine gK (by omega) ?_ | refine gL (by omega) ?_ | refine gK rfl ?_ | refine gO ?_); conv => whnf))
        refine boolRes_split (fun hb => ?_) (fun hb => ?_) <;> conv => whnf
        · repeat (first | refine gA ?_ | refine gB ?_ | refine gC rfl ?_ | refine gD rfl ?_ | ((first | refine gE env hN (by kernel_rfl) ?_ | refine gF ?_ | refine gG ?_ | refine gH fun hlen => ?_ | refine gI (by kernel_rfl) ?_ | refine gN rfl ?_ | refine gN (by omega) ?_ | refine gJ rfl ?_ | refine gK (by omega) ?_ | refine gL (by omega) ?_ | refine gK rfl ?_ | refine gO ?_); conv => whnf))
          refine boolRes_split (fun hb => ?_) (fun hb => ?_) <;> conv => whnf
          · repeat (first | refine gA ?_ | refine gB ?_ | refine gC rfl ?_ | refine gD rfl ?_ | ((first | refine gE env hN (by kernel_rfl) ?_ | refine gF ?_ | refine gG ?_ | refine gH fun hlen => ?_ | refine gI (by kernel_rfl) ?_ | refine gN rfl ?_ | refine gN (by omega) ?_ | refine gJ rfl ?_ | refine gK (by omega) ?_ | refine gL (by omega) ?_ | refine gK rfl ?_ | refine gO ?_); conv => whnf))
            have hp : aliveB v x = false := by simp [aliveB]; omega
            rw [hp, if_neg (by simp)] at hlk
            refine ⟨_, _, ?_, ⟨k + 1, by omega, rfl, rfl⟩, [], [], [], LeG.mk' rfl rfl rfl ⟨⟨_, .refl _, rfl⟩, ⟨_, .refl _, rfl⟩, ⟨_, .refl _, ?_⟩, ⟨_, .refl _, rfl⟩, ⟨_, .refl _, rfl⟩, ⟨_, .refl _, rfl⟩, trivial⟩ .nil rfl rfl (by rw [hK]; rfl)⟩
            · omega
            · rw [hlk]; rfl
          · skip
            have hp : aliveB v x = true := by simp [aliveB]; omega
            rw [hp, if_pos rfl] at hlk
            have hsn := sortT_snoc (aliveT v (c.items.take k)) x.tab
            rw [← hlk] at hsn
            generalize sortT (aliveT v (c.items.take k)) = P at *
            have hPl := tblRows_len P
            repeat (first | refine gA ?_ | refine gB ?_ | refine gC rfl ?_ | refine gD rfl ?_ | ((first | refine gE env hN (by kernel_rfl) ?_ | refine gF ?_ | refine gG ?_ | refine gH fun hlen => ?_ | refine gI (by kernel_rfl) ?_ | refine gN rfl ?_ | refine gN (by omega) ?_ | refine gJ rfl ?_ | refine gK (by omega) ?_ | refine gL (by omega) ?_ | refine gK rfl ?_ | refine gO ?_); conv => whnf))
            refine W.loopG (fun n st => ∃ j : Nat, j ≤ P.length ∧ placeR P x.tab.id P.length = placeR P x.tab.id j ∧ n = j ∧ st = ⟨[(1, .int .i64 v), (5, .int .i64 0), (6, .sl (tblRows P) false), (8, .bp 8 0), (9, .int .i64 j), (26, .sl (itemRows c.items) false), (27, .int .i64 (itemRows c.items).length), (28, .int .i64 k)], [(8, [.rows 5 [x.row] none])], [8]⟩)
              (tblRows P).length _ ⟨(tblRows P).length, by omega, by rw [hPl], rfl, rfl⟩ ⟨[(8, 8)], [], [], LeG.mk' rfl rfl rfl (by repeat' (first | exact trivial | exact ⟨_, .refl _, rfl⟩ | apply And.intro)) (.cons 8 rfl rfl (.refl _) rfl .nil) rfl rfl (by rw [hK]; rfl)⟩ ?_
            rintro n st ⟨j, hj, hpj, hnj, rfl⟩
            repeat (first | refine gA ?_ | refine gB ?_ | refine gC rfl ?_ | refine gD rfl ?_ | ((first | refine gE env hN (by kernel_rfl) ?_ | refine gF ?_ | refine gG ?_ | refine gH fun hlen => ?_ | refine gI (by kernel_rfl) ?_ | refine gN rfl ?_ | refine gN (by omega) ?_ | refine gJ rfl ?_ | refine gK (by omega) ?_ | refine gL (by omega) ?_ | refine gK rfl ?_ | refine gO ?_); conv => whnf))
            refine boolRes_split (fun hb => ?_) (fun hb => ?_) <;> conv => whnf
            · obtain ⟨p, rfl⟩ : ∃ p, j = p + 1 := ⟨j - 1, by omega⟩
              have hpP : p < P.length := by omega
              have r2 := tblRows_get hpP
              have g3 : placeR P x.tab.id (p + 1) = if x.tab.id < P[p].id then placeR P x.tab.id p else p + 1 := by
                simp only [placeR, List.getElem?_eq_getElem hpP]
              generalize P[p] = y at *
              repeat (first | refine gA ?_ | refine gB ?_ | refine gC rfl ?_ | refine gD rfl ?_ | ((first | refine gE env hN (by kernel_rfl) ?_ | refine gF ?_ | refine gG ?_ | refine gH fun hlen => ?_ | refine gI (by kernel_rfl) ?_ | refine gN rfl ?_ | refine gN (by omega) ?_ | refine gJ rfl ?_ | refine gK (by omega) ?_ | refine gL (by omega) ?_ | refine gK rfl ?_ | refine gO ?_); conv => whnf))
              refine rowAt_of (r := y.row) (by simpa using r2) ?_
              conv => whnf
              repeat (first | refine gA ?_ | refine gB ?_ | refine gC rfl ?_ | refine gD rfl ?_ | ((first | refine gE env hN (by kernel_rfl) ?_ | refine gF ?_ | refine gG ?_ | refine gH fun hlen => ?_ | refine gI (by kernel_rfl) ?_ | refine gN rfl ?_ | refine gN (by omega) ?_ | refine gJ rfl ?_ | refine gK (by omega) ?_ | refine gL (by omega) ?_ | refine gK rfl ?_ | refine gO ?_); conv => whnf))
              refine boolRes_split (fun hb => ?_) (fun hb => ?_) <;> conv => whnf
              · rw [if_pos (by omega)] at g3
                repeat (first | refine gA ?_ | refine gB ?_ | refine gC rfl ?_ | refine gD rfl ?_ | ((first | refine gE env hN (by kernel_rfl) ?_ | refine gF ?_ | refine gG ?_ | refine gH fun hlen => ?_ | refine gI (by kernel_rfl) ?_ | refine gN rfl ?_ | refine gN (by omega) ?_ | refine gJ rfl ?_ | refine gK (by omega) ?_ | refine gL (by omega) ?_ | refine gK rfl ?_ | refine gO ?_); conv => whnf))
                refine ⟨_, _, ?_, ⟨p, by omega, by rw [hpj, g3], rfl, rfl⟩, [(8, 8)], [], [], LeG.mk' rfl rfl rfl (by repeat' (first | exact trivial | exact ⟨_, .refl _, rfl⟩ | exact ⟨_, .refl _, congrArg (V.int .i64) (by omega)⟩ | apply And.intro)) (.cons 8 rfl rfl (.refl _) rfl .nil) rfl rfl (by rw [hK]; rfl)⟩
                omega
              · have hpe : placeR P x.tab.id (p + 1) = p + 1 := by rw [g3, if_neg (by omega)]
                generalize p + 1 = j at *
                have hins : insR P x.tab = P.take j ++ x.tab :: P.drop j := by unfold insR; rw [hpj, hpe]
                have hlen1 : (List.drop (Int.toNat 0) (List.take (j : Int).toNat (tblRows P))).length = j := by simp; omega
                have hlen2 : (List.drop (j : Int).toNat (List.take ((tblRows P).length : Int).toNat (tblRows P))).length = P.length - j := by simp [hPl]
                have hlen3 : (List.drop (Int.toNat 0) (List.take (j : Int).toNat (tblRows P))).length + 1 = (List.drop (Int.toNat 0) (List.take (j : Int).toNat (tblRows P)) ++ [x.tab.row]).length := by rw [List.length_append]; rfl
                have hrows : (List.drop (Int.toNat 0) (List.take (j : Int).toNat (tblRows P)) ++ [x.tab.row]) ++ List.drop (j : Int).toNat (List.take ((tblRows P).length : Int).toNat (tblRows P)) = tblRows (sortT (aliveT v (c.items.take (k + 1)))) := by
                  have hfull : List.take ((tblRows P).length : Int).toNat (tblRows P) = tblRows P := List.take_of_length_le (by simp)
                  rw [hsn, hins, hfull]
                  simp [tblRows]
                have hlen4 : (List.drop (Int.toNat 0) (List.take (j : Int).toNat (tblRows P))).length + 1 + (List.drop (j : Int).toNat (List.take ((tblRows P).length : Int).toNat (tblRows P))).length = ((List.drop (Int.toNat 0) (List.take (j : Int).toNat (tblRows P)) ++ [x.tab.row]) ++ List.drop (j : Int).toNat (List.take ((tblRows P).length : Int).toNat (tblRows P))).length := by rw [List.length_append, ← hlen3]
                repeat (first | refine gA ?_ | refine gB ?_ | refine gC rfl ?_ | refine gD rfl ?_ | ((first | refine gE env hN (by kernel_rfl) ?_ | refine gF ?_ | refine gG ?_ | refine gH fun hlen => ?_ | refine gI (by kernel_rfl) ?_ | refine gN rfl ?_ | refine gN (by omega) ?_ | refine gJ rfl ?_ | refine gK (by omega) ?_ | refine gL (by omega) ?_ | refine gK rfl ?_ | refine gO ?_); conv => whnf))
                refine ⟨tblRows_sz _, ?_⟩
                conv => whnf
                repeat (first | refine gA ?_ | refine gB ?_ | refine gC rfl ?_ | refine gD rfl ?_ | ((first | refine gE env hN (by kernel_rfl) ?_ | refine gF ?_ | refine gG ?_ | refine gH fun hlen => ?_ | refine gI (by kernel_rfl) ?_ | refine gN rfl ?_ | refine gN (by omega) ?_ | refine gJ rfl ?_ | refine gK (by omega) ?_ | refine gL (by omega) ?_ | refine gK rfl ?_ | refine gO ?_); conv => whnf))
                refine ⟨rowsSz_sub (tblRows_sz _), fitN (b := 48) (by rw [hlen1]; omega) (by omega), ?_⟩
                conv => whnf
                refine Or.inl ?_
                conv => whnf
                repeat (first | refine gA ?_ | refine gB ?_ | refine gC rfl ?_ | refine gD rfl ?_ | ((first | refine gE env hN (by kernel_rfl) ?_ | refine gF ?_ | refine gG ?_ | refine gH fun hlen => ?_ | refine gI (by kernel_rfl) ?_ | refine gN rfl ?_ | refine gN (by omega) ?_ | refine gJ rfl ?_ | refine gK (by omega) ?_ | refine gL (by omega) ?_ | refine gK rfl ?_ | refine gO ?_); conv => whnf))
                (refine ⟨_, _, _, callG [] [] [] rfl rfl rfl (by kernel_rfl) (sp2) (by repeat' (first | exact trivial | exact Lent.refl _ | exact Lent.norm _ | apply And.intro)) rfl ⟨rfl, rfl, rfl, rfl, rfl, trivial, rfl, rfl⟩, ?_⟩; conv => whnf)
                repeat (first | refine gA ?_ | refine gB ?_ | refine gC rfl ?_ | refine gD rfl ?_ | ((first | refine gE env hN (by kernel_rfl) ?_ | refine gF ?_ | refine gG ?_ | refine gH fun hlen => ?_ | refine gI (by kernel_rfl) ?_ | refine gN rfl ?_ | refine gN (by omega) ?_ | refine gJ rfl ?_ | refine gK (by omega) ?_ | refine gL (by omega) ?_ | refine gK rfl ?_ | refine gO ?_); conv => whnf))
                refine ⟨⟨rowsSz_cons rfl rowsSz_nil, rfl⟩, fitN (n := (List.drop (Int.toNat 0) (List.take (j : Int).toNat (tblRows P))).length + 1) (b := 48) (by rw [hlen1]; omega) (by omega), .inl ⟨rfl, rfl, ?_⟩⟩
                conv => whnf
                repeat (first | refine gA ?_ | refine gB ?_ | refine gC rfl ?_ | refine gD rfl ?_ | ((first | refine gE env hN (by kernel_rfl) ?_ | refine gF ?_ | refine gG ?_ | refine gH fun hlen => ?_ | refine gI (by kernel_rfl) ?_ | refine gN rfl ?_ | refine gN (by omega) ?_ | refine gJ rfl ?_ | refine gK (by omega) ?_ | refine gL (by omega) ?_ | refine gK rfl ?_ | refine gO ?_); conv => whnf))
                refine ⟨tblRows_sz _, ?_⟩
                conv => whnf
                repeat (first | refine gA ?_ | refine gB ?_ | refine gC rfl ?_ | refine gD rfl ?_ | ((first | refine gE env hN (by kernel_rfl) ?_ | refine gF ?_ | refine gG ?_ | refine gH fun hlen => ?_ | refine gI (by kernel_rfl) ?_ | refine gN rfl ?_ | refine gN (by omega) ?_ | refine gJ rfl ?_ | refine gK (by omega) ?_ | refine gL (by omega) ?_ | refine gK rfl ?_ | refine gO ?_); conv => whnf))
                refine ⟨⟨rowsSz_sub (tblRows_sz _), hlen3⟩, fitN (n := (List.drop (Int.toNat 0) (List.take (j : Int).toNat (tblRows P))).length + 1 + (List.drop (j : Int).toNat (List.take ((tblRows P).length : Int).toNat (tblRows P))).length) (b := 48) (by rw [hlen1, hlen2]; omega) (by omega), .inl ⟨rfl, rfl, ?_⟩⟩
                conv => whnf
                repeat (first | refine gA ?_ | refine gB ?_ | refine gC rfl ?_ | refine gD rfl ?_ | ((first | refine gE env hN (by kernel_rfl) ?_ | refine gF ?_ | refine gG ?_ | refine gH fun hlen => ?_ | refine gI (by kernel_rfl) ?_ | refine gN rfl ?_ | refine gN (by omega) ?_ | refine gJ rfl ?_ | refine gK (by omega) ?_ | refine gL (by omega) ?_ | refine gK rfl ?_ | refine gO ?_); conv => whnf))
                refine ⟨_, _, ?_, ⟨k + 1, by omega, rfl, rfl⟩, [], [68], [], LeG.mk' rfl rfl rfl ⟨⟨_, .refl _, rfl⟩, ⟨_, .refl _, rfl⟩, ⟨_, Lent.whole rfl rfl hlen4 rfl (.inl rfl), congrArg (fun r => V.sl r false) hrows⟩, ⟨_, .refl _, rfl⟩, ⟨_, .refl _, rfl⟩, ⟨_, .refl _, rfl⟩, trivial⟩ .nil rfl rfl (by rw [hK]; rfl)⟩
                omega
            · have hj0 : j = 0 := by omega
              have hpe : placeR P x.tab.id j = j := by rw [hj0]; rfl
              have hins : insR P x.tab = P.take j ++ x.tab :: P.drop j := by unfold insR; rw [hpj, hpe]
              have hlen1 : (List.drop (Int.toNat 0) (List.take (j : Int).toNat (tblRows P))).length = j := by simp; omega
              have hlen2 : (List.drop (j : Int).toNat (List.take ((tblRows P).length : Int).toNat (tblRows P))).length = P.length - j := by simp [hPl]
              have hlen3 : (List.drop (Int.toNat 0) (List.take (j : Int).toNat (tblRows P))).length + 1 = (List.drop (Int.toNat 0) (List.take (j : Int).toNat (tblRows P)) ++ [x.tab.row]).length := by rw [List.length_append]; rfl
              have hrows : (List.drop (Int.toNat 0) (List.take (j : Int).toNat (tblRows P)) ++ [x.tab.row]) ++ List.drop (j : Int).toNat (List.take ((tblRows P).length : Int).toNat (tblRows P)) = tblRows (sortT (aliveT v (c.items.take (k + 1)))) := by
                have hfull : List.take ((tblRows P).length : Int).toNat (tblRows P) = tblRows P := List.take_of_length_le (by simp)
                rw [hsn, hins, hfull]
                simp [tblRows]
              have hlen4 : (List.drop (Int.toNat 0) (List.take (j : Int).toNat (tblRows P))).length + 1 + (List.drop (j : Int).toNat (List.take ((tblRows P).length : Int).toNat (tblRows P))).length = ((List.drop (Int.toNat 0) (List.take (j : Int).toNat (tblRows P)) ++ [x.tab.row]) ++ List.drop (j : Int).toNat (List.take ((tblRows P).length : Int).toNat (tblRows P))).length := by rw [List.length_append, ← hlen3]
              repeat (first | refine gA ?_ | refine gB ?_ | refine gC rfl ?_ | refine gD rfl ?_ | ((first | refine gE env hN (by kernel_rfl) ?_ | refine gF ?_ | refine gG ?_ | refine gH fun hlen => ?_ | refine gI (by kernel_rfl) ?_ | refine gN rfl ?_ | refine gN (by omega) ?_ | refine gJ rfl ?_ | refine gK (by omega) ?_ | refine gL (by omega) ?_ | refine gK rfl ?_ | refine gO ?_); conv => whnf))
              refine ⟨tblRows_sz _, ?_⟩
              conv => whnf
              repeat (first | refine gA ?_ | refine gB ?_ | refine gC rfl ?_ | refine gD rfl ?_ | ((first | refine gE env hN (by kernel_rfl) ?_ | refine gF ?_ | refine gG ?_ | refine gH fun hlen => ?_ | refine gI (by kernel_rfl) ?_ | refine gN rfl ?_ | refine gN (by omega) ?_ | refine gJ rfl ?_ | refine gK (by omega) ?_ | refine gL (by omega) ?_ | refine gK rfl ?_ | refine gO ?_); conv => whnf))
              refine ⟨rowsSz_sub (tblRows_sz _), fitN (b := 48) (by rw [hlen1]; omega) (by omega), ?_⟩
              conv => whnf
              refine Or.inl ?_
              conv => whnf
              repeat (first | refine gA ?_ | refine gB ?_ | refine gC rfl ?_ | refine gD rfl ?_ | ((first | refine gE env hN (by kernel_rfl) ?_ | refine gF ?_ | refine gG ?_ | refine gH fun hlen => ?_ | refine gI (by kernel_rfl) ?_ | refine gN rfl ?_ | refine gN (by omega) ?_ | refine gJ rfl ?_ | refine gK (by omega) ?_ | refine gL (by omega) ?_ | refine gK rfl ?_ | refine gO ?_); conv => whnf))
              (refine ⟨_, _, _, callG [] [] [] rfl rfl rfl (by kernel_rfl) (sp2) (by repeat' (first | exact trivial | exact Lent.refl _ | exact Lent.norm _ | apply And.intro)) rfl ⟨rfl, rfl, rfl, rfl, rfl, trivial, rfl, rfl⟩, ?_⟩; conv => whnf)
              repeat (first | refine gA ?_ | refine gB ?_ | refine gC rfl ?_ | refine gD rfl ?_ | ((first | refine gE env hN (by kernel_rfl) ?_ | refine gF ?_ | refine gG ?_ | refine gH fun hlen => ?_ | refine gI (by kernel_rfl) ?_ | refine gN rfl ?_ | refine gN (by omega) ?_ | refine gJ rfl ?_ | refine gK (by omega) ?_ | refine gL (by omega) ?_ | refine gK rfl ?_ | refine gO ?_); conv => whnf))
              refine ⟨⟨rowsSz_cons rfl rowsSz_nil, rfl⟩, fitN (n := (List.drop (Int.toNat 0) (List.take (j : Int).toNat (tblRows P))).length + 1) (b := 48) (by rw [hlen1]; omega) (by omega), .inl ⟨rfl, rfl, ?_⟩⟩
              conv => whnf
              repeat (first | refine gA ?_ | refine gB ?_ | refine gC rfl ?_ | refine gD rfl ?_ | ((first | refine gE env hN (by kernel_rfl) ?_ | refine gF ?_ | refine gG ?_ | refine gH fun hlen => ?_ | refine gI (by kernel_rfl) ?_ | refine gN rfl ?_ | refine gN (by omega) ?_ | refine gJ rfl ?_ | refine gK (by omega) ?_ | refine gL (by omega) ?_ | refine gK rfl ?_ | refine gO ?_); conv => whnf))
              refine ⟨tblRows_sz _, ?_⟩
              conv => whnf
              repeat (first | refine gA ?_ | refine gB ?_ | refine gC rfl ?_ | refine gD rfl ?_ | ((first | refine gE env hN (by kernel_rfl) ?_ | refine gF ?_ | refine gG ?_ | refine gH fun hlen => ?_ | refine gI (by kernel_rfl) ?_ | refine gN rfl ?_ | refine gN (by omega) ?_ | refine gJ rfl ?_ | refine gK (by omega) ?_ | refine gL (by omega) ?_ | refine gK rfl ?_ | refine gO ?_); conv => whnf))
              refine ⟨⟨rowsSz_sub (tblRows_sz _), hlen3⟩, fitN (n := (List.drop (Int.toNat 0) (List.take (j : Int).toNat (tblRows P))).length + 1 + (List.drop (j : Int).toNat (List.take ((tblRows P).length : Int).toNat (tblRows P))).length) (b := 48) (by rw [hlen1, hlen2]; omega) (by omega), .inl ⟨rfl, rfl, ?_⟩⟩
              conv => whnf
              repeat (first | refine gA ?_ | refine gB ?_ | refine gC rfl ?_ | refine gD rfl ?_ | ((first | refine gE env hN (by kernel_rfl) ?_ | refine gF ?_ | refine gG ?_ | refine gH fun hlen => ?_ | refine gI (by kernel_rfl) ?_ | refine gN rfl ?_ | refine gN (by omega) ?_ | refine gJ rfl ?_ | refine gK (by omega) ?_ | refine gL (by omega) ?_ | refine gK rfl ?_ | refine gO ?_); conv => whnf))
              refine ⟨_, _, ?_, ⟨k + 1, by omega, rfl, rfl⟩, [], [68], [], LeG.mk' rfl rfl rfl ⟨⟨_, .refl _, rfl⟩, ⟨_, .refl _, rfl⟩, ⟨_, Lent.whole rfl rfl hlen4 rfl (.inl rfl), congrArg (fun r => V.sl r false) hrows⟩, ⟨_, .refl _, rfl⟩, ⟨_, .refl _, rfl⟩, ⟨_, .refl _, rfl⟩, trivial⟩ .nil rfl rfl (by rw [hK]; rfl)⟩
              omega
        · skip
          have hp : aliveB v x = true := by simp [aliveB]; omega
          rw [hp, if_pos rfl] at hlk
          have hsn := sortT_snoc (aliveT v (c.items.take k)) x.tab
          rw [← hlk] at hsn
          generalize sortT (aliveT v (c.items.take k)) = P at *
          have hPl := tblRows_len P
          repeat (first | refine gA ?_ | refine gB ?_ | refine gC rfl ?_ | refine gD rfl ?_ | ((first | refine gE env hN (by kernel_rfl) ?_ | refine gF ?_ | refine gG ?_ | refine gH fun hlen => ?_ | refine gI (by kernel_rfl) ?_ | refine gN rfl ?_ | refine gN (by omega) ?_ | refine gJ rfl ?_ | refine gK (by omega) ?_ | refine gL (by omega) ?_ | refine gK rfl ?_ | refine gO ?_); conv => whnf))
          refine W.loopG (fun n st => ∃ j : Nat, j ≤ P.length ∧ placeR P x.tab.id P.length = placeR P x.tab.id j ∧ n = j ∧ st = ⟨[(1, .int .i64 v), (5, .int .i64 0), (6, .sl (tblRows P) false), (8, .bp 8 0), (9, .int .i64 j), (26, .sl (itemRows c.items) false), (27, .int .i64 (itemRows c.items).length), (28, .int .i64 k)], [(8, [.rows 5 [x.row] none])], [8]⟩)
            (tblRows P).length _ ⟨(tblRows P).length, by omega, by rw [hPl], rfl, rfl⟩ ⟨[(8, 8)], [], [], LeG.mk' rfl rfl rfl (by repeat' (first | exact trivial | exact ⟨_, .refl _, rfl⟩ | apply And.intro)) (.cons 8 rfl rfl (.refl _) rfl .nil) rfl rfl (by rw [hK]; rfl)⟩ ?_
          rintro n st ⟨j, hj, hpj, hnj, rfl⟩
          repeat (first | refine gA ?_ | refine gB ?_ | refine gC rfl ?_ | refine gD rfl ?_ | ((first | refine gE env hN (by kernel_rfl) ?_ | refine gF ?_ | refine gG ?_ | refine gH fun hlen => ?_ | refine gI (by kernel_rfl) ?_ | refine gN rfl ?_ | refine gN (by omega) ?_ | refine gJ rfl ?_ | refine gK (by omega) ?_ | refine gL (by omega) ?_ | refine gK rfl ?_ | refine gO ?_); conv => whnf))
          refine boolRes_split (fun hb => ?_) (fun hb => ?_) <;> conv => whnf
          · obtain ⟨p, rfl⟩ : ∃ p, j = p + 1 := ⟨j - 1, by omega⟩
            have hpP : p < P.length := by omega
            have r2 := tblRows_get hpP
            have g3 : placeR P x.tab.id (p + 1) = if x.tab.id < P[p].id then placeR P x.tab.id p else p + 1 := by
              simp only [placeR, List.getElem?_eq_getElem hpP]
            generalize P[p] = y at *
            repeat (first | refine gA ?_ | refine gB ?_ | refine gC rfl ?_ | refine gD rfl ?_ | ((first | refine gE env hN (by kernel_rfl) ?_ | refine gF ?_ | refine gG ?_ | refine gH fun hlen => ?_ | refine gI (by kernel_rfl) ?_ | refine gN rfl ?_ | refine gN (by omega) ?_ | refine gJ rfl ?_ | refine gK (by omega) ?_ | refine gL (by omega) ?_ | refine gK rfl ?_ | refine gO ?_); conv => whnf))
            refine rowAt_of (r := y.row) (by simpa using r2) ?_
            conv => whnf
            repeat (first | refine gA ?_ | refine gB ?_ | refine gC rfl ?_ | refine gD rfl ?_ | ((first | refine gE env hN (by kernel_rfl) ?_ | refine gF ?_ | refine gG ?_ | refine gH fun hlen => ?_ | refine gI (by kernel_rfl) ?_ | refine gN rfl ?_ | refine gN (by omega) ?_ | refine gJ rfl ?_ | refine gK (by omega) ?_ | refine gL (by omega) ?_ | refine gK rfl ?_ | refine gO ?_); conv => whnf))
            refine boolRes_split (fun hb => ?_) (fun hb => ?_) <;> conv => whnf
            · rw [if_pos (by omega)] at g3
              repeat (first | refine gA ?_ | refine gB ?_ | refine gC rfl ?_ | refine gD rfl ?_ | ((first | refine gE env hN (by kernel_rfl) ?_ | refine gF ?_ | refine gG ?_ | refine gH fun hlen => ?_ | refine gI (by kernel_rfl) ?_ | refine gN rfl ?_ | refine gN (by omega) ?_ | refine gJ rfl ?_ | refine gK (by omega) ?_ | refine gL (by omega) ?_ | refine gK rfl ?_ | refine gO ?_); conv => whnf))
              refine ⟨_, _, ?_, ⟨p, by omega, by rw [hpj, g3], rfl, rfl⟩, [(8, 8)], [], [], LeG.mk' rfl rfl rfl (by repeat' (first | exact trivial | exact ⟨_, .refl _, rfl⟩ | exact ⟨_, .refl _, congrArg (V.int .i64) (by omega)⟩ | apply And.intro)) (.cons 8 rfl rfl (.refl _) rfl .nil) rfl rfl (by rw [hK]; rfl)⟩
              omega
            · have hpe : placeR P x.tab.id (p + 1) = p + 1 := by rw [g3, if_neg (by omega)]
              generalize p + 1 = j at *
              have hins : insR P x.tab = P.take j ++ x.tab :: P.drop j := by unfold insR; rw [hpj, hpe]
              have hlen1 : (List.drop (Int.toNat 0) (List.take (j : Int).toNat (tblRows P))).length = j := by simp; omega
              have hlen2 : (List.drop (j : Int).toNat (List.take ((tblRows P).length : Int).toNat (tblRows P))).length = P.length - j := by simp [hPl]
              have hlen3 : (List.drop (Int.toNat 0) (List.take (j : Int).toNat (tblRows P))).length + 1 = (List.drop (Int.toNat 0) (List.take (j : Int).toNat (tblRows P)) ++ [x.tab.row]).length := by rw [List.length_append]; rfl
              have hrows : (List.drop (Int.toNat 0) (List.take (j : Int).toNat (tblRows P)) ++ [x.tab.row]) ++ List.drop (j : Int).toNat (List.take ((tblRows P).length : Int).toNat (tblRows P)) = tblRows (sortT (aliveT v (c.items.take (k + 1)))) := by
                have hfull : List.take ((tblRows P).length : Int).toNat (tblRows P) = tblRows P := List.take_of_length_le (by simp)
                rw [hsn, hins, hfull]
                simp [tblRows]
              have hlen4 : (List.drop (Int.toNat 0) (List.take (j : Int).toNat (tblRows P))).length + 1 + (List.drop (j : Int).toNat (List.take ((tblRows P).length : Int).toNat (tblRows P))).length = ((List.drop (Int.toNat 0) (List.take (j : Int).toNat (tblRows P)) ++ [x.tab.row]) ++ List.drop (j : Int).toNat (List.take ((tblRows P).length : Int).toNat (tblRows P))).length := by rw [List.length_append, ← hlen3]
              repeat (first | refine gA ?_ | refine gB ?_ | refine gC rfl ?_ | refine gD rfl ?_ | ((first | refine gE env hN (by kernel_rfl) ?_ | refine gF ?_ | refine gG ?_ | refine gH fun hlen => ?_ | refine gI (by kernel_rfl) ?_ | refine gN rfl ?_ | refine gN (by omega) ?_ | refine gJ rfl ?_ | refine gK (by omega) ?_ | refine gL (by omega) ?_ | refine gK rfl ?_ | refine gO ?_); conv => whnf))
              refine ⟨tblRows_sz _, ?_⟩
              conv => whnf
              repeat (first | refine gA ?_ | refine gB ?_ | refine gC rfl ?_ | refine gD rfl ?_ | ((first | refine gE env hN (by kernel_rfl) ?_ | refine gF ?_ | refine gG ?_ | refine gH fun hlen => ?_ | refine gI (by kernel_rfl) ?_ | refine gN rfl ?_ | refine gN (by omega) ?_ | refine gJ rfl ?_ | refine gK (by omega) ?_ | refine gL (by omega) ?_ | refine gK rfl ?_ | refine gO ?_); conv => whnf))
              refine ⟨rowsSz_sub (tblRows_sz _), fitN (b := 48) (by rw [hlen1]; omega) (by omega), ?_⟩
              conv => whnf
              refine Or.inl ?_
              conv => whnf
              repeat (first | refine gA ?_ | refine gB ?_ | refine gC rfl ?_ | refine gD rfl ?_ | ((first | refine gE env hN (by kernel_rfl) ?_ | refine gF ?_ | refine gG ?_ | refine gH fun hlen => ?_ | refine gI (by kernel_rfl) ?_ | refine gN rfl ?_ | refine gN (by omega) ?_ | refine gJ rfl ?_ | refine gK (by omega) ?_ | refine gL (by omega) ?_ | refine gK rfl ?_ | refine gO ?_); conv => whnf))
              (refine ⟨_, _, _, callG [] [] [] rfl rfl rfl (by kernel_rfl) (sp2) (by repeat' (first | exact trivial | exact Lent.refl _ | exact Lent.norm _ | apply And.intro)) rfl ⟨rfl, rfl, rfl, rfl, rfl, trivial, rfl, rfl⟩, ?_⟩; conv => whnf)
              repeat (first | refine gA ?_ | refine gB ?_ | refine gC rfl ?_ | refine gD rfl ?_ | ((first | refine gE env hN (by kernel_rfl) ?_ | refine gF ?_ | refine gG ?_ | refine gH fun hlen => ?_ | refine gI (by kernel_rfl) ?_ | refine gN rfl ?_ | refine gN (by omega) ?_ | refine gJ rfl ?_ | refine gK (by omega) ?_ | refine gL (by omega) ?_ | refine gK rfl ?_ | refine gO ?_); conv => whnf))
              refine ⟨⟨rowsSz_cons rfl rowsSz_nil, rfl⟩, fitN (n := (List.drop (Int.toNat 0) (List.take (j : Int).toNat (tblRows P))).length + 1) (b := 48) (by rw [hlen1]; omega) (by omega), .inl ⟨rfl, rfl, ?_⟩⟩
              conv => whnf
              repeat (first | refine gA ?_ | refine gB ?_ | refine gC rfl ?_ | refine gD rfl ?_ | ((first | refine gE env hN (by kernel_rfl) ?_ | refine gF ?_ | refine gG ?_ | refine gH fun hlen => ?_ | refine gI (by kernel_rfl) ?_ | refine gN rfl ?_ | refine gN (by omega) ?_ | refine gJ rfl ?_ | refine gK (by omega) ?_ | refine gL (by omega) ?_ | refine gK rfl ?_ | refine gO ?_); conv => whnf))
              refine ⟨tblRows_sz _, ?_⟩
              conv => whnf
              repeat (first | refine gA ?_ | refine gB ?_ | refine gC rfl ?_ | refine gD rfl ?_ | ((first | refine gE env hN (by kernel_rfl) ?_ | refine gF ?_ | refine gG ?_ | refine gH fun hlen => ?_ | refine gI (by kernel_rfl) ?_ | refine gN rfl ?_ | refine gN (by omega) ?_ | refine gJ rfl ?_ | refine gK (by omega) ?_ | refine gL (by omega) ?_ | refine gK rfl ?_ | refine gO ?_); conv => whnf))
              refine ⟨⟨rowsSz_sub (tblRows_sz _), hlen3⟩, fitN (n := (List.drop (Int.toNat 0) (List.take (j : Int).toNat (tblRows P))).length + 1 + (List.drop (j : Int).toNat (List.take ((tblRows P).length : Int).toNat (tblRows P))).length) (b := 48) (by rw [hlen1, hlen2]; omega) (by omega), .inl ⟨rfl, rfl, ?_⟩⟩
              conv => whnf
              repeat (first | refine gA ?_ | refine gB ?_ | refine gC rfl ?_ | refine gD rfl ?_ | ((first | refine gE env hN (by kernel_rfl) ?_ | refine gF ?_ | refine gG ?_ | refine gH fun hlen => ?_ | refine gI (by kernel_rfl) ?_ | refine gN rfl ?_ | refine gN (by omega) ?_ | refine gJ rfl ?_ | refine gK (by omega) ?_ | refine gL (by omega) ?_ | refine gK rfl ?_ | refine gO ?_); conv => whnf))
              refine ⟨_, _, ?_, ⟨k + 1, by omega, rfl, rfl⟩, [], [68], [], LeG.mk' rfl rfl rfl ⟨⟨_, .refl _, rfl⟩, ⟨_, .refl _, rfl⟩, ⟨_, Lent.whole rfl rfl hlen4 rfl (.inl rfl), congrArg (fun r => V.sl r false) hrows⟩, ⟨_, .refl _, rfl⟩, ⟨_, .refl _, rfl⟩, ⟨_, .refl _, rfl⟩, trivial⟩ .nil rfl rfl (by rw [hK]; rfl)⟩
              omega
          · have hj0 : j = 0 := by omega
            have hpe : placeR P x.tab.id j = j := by rw [hj0]; rfl
            have hins : insR P x.tab = P.take j ++ x.tab :: P.drop j := by unfold insR; rw [hpj, hpe]
            have hlen1 : (List.drop (Int.toNat 0) (List.take (j : Int).toNat (tblRows P))).length = j := by simp; omega
            have hlen2 : (List.drop (j : Int).toNat (List.take ((tblRows P).length : Int).toNat (tblRows P))).length = P.length - j := by simp [hPl]
            have hlen3 : (List.drop (Int.toNat 0) (List.take (j : Int).toNat (tblRows P))).length + 1 = (List.drop (Int.toNat 0) (List.take (j : Int).toNat (tblRows P)) ++ [x.tab.row]).length := by rw [List.length_append]; rfl
            have hrows : (List.drop (Int.toNat 0) (List.take (j : Int).toNat (tblRows P)) ++ [x.tab.row]) ++ List.drop (j : Int).toNat (List.take ((tblRows P).length : Int).toNat (tblRows P)) = tblRows (sortT (aliveT v (c.items.take (k + 1)))) := by
              have hfull : List.take ((tblRows P).length : Int).toNat (tblRows P) = tblRows P := List.take_of_length_le (by simp)
              rw [hsn, hins, hfull]
              simp [tblRows]
            have hlen4 : (List.drop (Int.toNat 0) (List.take (j : Int).toNat (tblRows P))).length + 1 + (List.drop (j : Int).toNat (List.take ((tblRows P).length : Int).toNat (tblRows P))).length = ((List.drop (Int.toNat 0) (List.take (j : Int).toNat (tblRows P)) ++ [x.tab.row]) ++ List.drop (j : Int).toNat (List.take ((tblRows P).length : Int).toNat (tblRows P))).length := by rw [List.length_append, ← hlen3]
            repeat (first | refine gA ?_ | refine gB ?_ | refine gC rfl ?_ | refine gD rfl ?_ | ((first | refine gE env hN (by kernel_rfl) ?_ | refine gF ?_ | refine gG ?_ | refine gH fun hlen => ?_ | refine gI (by kernel_rfl) ?_ | refine gN rfl ?_ | refine gN (by omega) ?_ | refine gJ rfl ?_ | refine gK (by omega) ?_ | refine gL (by omega) ?_ | refine gK rfl ?_ | refine gO ?_); conv => whnf))
            refine ⟨tblRows_sz _, ?_⟩
            conv => whnf
            repeat (first | refine gA ?_ | refine gB ?_ | refine gC rfl ?_ | refine gD rfl ?_ | ((first | refine gE env hN (by kernel_rfl) ?_ | refine gF ?_ | refine gG ?_ | refine gH fun hlen => ?_ | refine gI (by kernel_rfl) ?_ | refine gN rfl ?_ | refine gN (by omega) ?_ | refine gJ rfl ?_ | refine gK (by omega) ?_ | refine gL (by omega) ?_ | refine gK rfl ?_ | refine gO ?_); conv => whnf))
            refine ⟨rowsSz_sub (tblRows_sz _), fitN (b := 48) (by rw [hlen1]; omega) (by omega), ?_⟩
            conv => whnf
            refine Or.inl ?_
            conv => whnf
            repeat (first | refine gA ?_ | refine gB ?_ | refine gC rfl ?_ | refine gD rfl ?_ | ((first | refine gE env hN (by kernel_rfl) ?_ | refine gF ?_ | refine gG ?_ | refine gH fun hlen => ?_ | refine gI (by kernel_rfl) ?_ | refine gN rfl ?_ | refine gN (by omega) ?_ | refine gJ rfl ?_ | refine gK (by omega) ?_ | refine gL (by omega) ?_ | refine gK rfl ?_ | refine gO ?_); conv => whnf))
            (refine ⟨_, _, _, callG [] [] [] rfl rfl rfl (by kernel_rfl) (sp2) (by repeat' (first | exact trivial | exact Lent.refl _ | exact Lent.norm _ | apply And.intro)) rfl ⟨rfl, rfl, rfl, rfl, rfl, trivial, rfl, rfl⟩, ?_⟩; conv => whnf)
            repeat (first | refine gA ?_ | refine gB ?_ | refine gC rfl ?_ | refine gD rfl ?_ | ((first | refine gE env hN (by kernel_rfl) ?_ | refine gF ?_ | refine gG ?_ | refine gH fun hlen => ?_ | refine gI (by kernel_rfl) ?_ | refine gN rfl ?_ | refine gN (by omega) ?_ | refine gJ rfl ?_ | refine gK (by omega) ?_ | refine gL (by omega) ?_ | refine gK rfl ?_ | refine gO ?_); conv => whnf))
            refine ⟨⟨rowsSz_cons rfl rowsSz_nil, rfl⟩, fitN (n := (List.drop (Int.toNat 0) (List.take (j : Int).toNat (tblRows P))).length + 1) (b := 48) (by rw [hlen1]; omega) (by omega), .inl ⟨rfl, rfl, ?_⟩⟩
            conv => whnf
            repeat (first | refine gA ?_ | refine gB ?_ | refine gC rfl ?_ | refine gD rfl ?_ | ((first | refine gE env hN (by kernel_rfl) ?_ | refine gF ?_ | refine gG ?_ | refine gH fun hlen => ?_ | refine gI (by kernel_rfl) ?_ | refine gN rfl ?_ | refine gN (by omega) ?_ | refine gJ rfl ?_ | refine gK (by omega) ?_ | refine gL (by omega) ?_ | refine gK rfl ?_ | refine gO ?_); conv => whnf))
            refine ⟨tblRows_sz _, ?_⟩
            conv => whnf
            repeat (first | refine gA ?_ | refine gB ?_ | refine gC rfl ?_ | refine gD rfl ?_ | ((first | refine gE env hN (by kernel_rfl) ?_ | refine gF ?_ | refine gG ?_ | refine gH fun hlen => ?_ | refine gI (by kernel_rfl) ?_ | refine gN rfl ?_ | refine gN (by omega) ?_ | refine gJ rfl ?_ | refine gK (by omega) ?_ | refine gL (by omega) ?_ | refine gK rfl ?_ | refine gO ?_); conv => whnf))
            refine ⟨⟨rowsSz_sub (tblRows_sz _), hlen3⟩, fitN (n := (List.drop (Int.toNat 0) (List.take (j : Int).toNat (tblRows P))).length + 1 + (List.drop (j : Int).toNat (List.take ((tblRows P).length : Int).toNat (tblRows P))).length) (b := 48) (by rw [hlen1, hlen2]; omega) (by omega), .inl ⟨rfl, rfl, ?_⟩⟩
            conv => whnf
            repeat (first | refine gA ?_ | refine gB ?_ | refine gC rfl ?_ | refine gD rfl ?_ | ((first | refine gE env hN (by kernel_rfl) ?_ | refine gF ?_ | refine gG ?_ | refine gH fun hlen => ?_ | refine gI (by kernel_rfl) ?_ | refine gN rfl ?_ | refine gN (by omega) ?_ | refine gJ rfl ?_ | refine gK (by omega) ?_ | refine gL (by omega) ?_ | refine gK rfl ?_ | refine gO ?_); conv => whnf))
            refine ⟨_, _, ?_, ⟨k + 1, by omega, rfl, rfl⟩, [], [68], [], LeG.mk' rfl rfl rfl ⟨⟨_, .refl _, rfl⟩, ⟨_, .refl _, rfl⟩, ⟨_, Lent.whole rfl rfl hlen4 rfl (.inl rfl), congrArg (fun r => V.sl r false) hrows⟩, ⟨_, .refl _, rfl⟩, ⟨_, .refl _, rfl⟩, ⟨_, .refl _, rfl⟩, trivial⟩ .nil rfl rfl (by rw [hK]; rfl)⟩
            omega
    · have hke : k = c.items.length := by omega
      subst hke
      rw [List.take_length]
      repeat (first | refine gA ?_ | refine gB ?_ | refine gC rfl ?_ | refine gD rfl ?_ | ((first | refine gE env hN (by kernel_rfl) ?_ | refine gF ?_ | refine gG ?_ | refine gH fun hlen => ?_ | refine gI (by kernel_rfl) ?_ | refine gN rfl ?_ | refine gN (by omega) ?_ | refine gJ rfl ?_ | refine gK (by omega) ?_ | refine gL (by omega) ?_ | refine gK rfl ?_ | refine gO ?_); conv => whnf))
      (refine gM ?_; conv => whnf)
      exact ret0 rfl rfl rfl
end Go.Sx.Sp
namespace Go.Sx.Sp
open Go Go.Sx Go.Proofs
attribute [local irreducible] GoodW
noncomputable def collStep (l : List Int) (s : Coll × Nat) : Coll × Nat :=
  if nextV l s.2 5 = 0 then
    ((if (dropM s.1 (1 + nextV l (nextP l s.2) 4)).2 = 0 then (dropM s.1 (1 + nextV l (nextP l s.2) 4)).1 else s.1), nextP l (nextP l s.2))
  else ((putM s.1 (tblF l (1 + nextV l (nextP l s.2) 4) (nextP l (nextP l s.2))).1).1, (tblF l (1 + nextV l (nextP l s.2) 4) (nextP l (nextP l s.2))).2)
noncomputable def collRun (l : List Int) : Nat → Coll × Nat → Coll × Nat
  | 0, s => s
  | n + 1, s => collRun l n (collStep l s)
noncomputable def collF (l : List Int) (most : Int) (p : Nat) : Coll × Nat := collRun l (1 + (nextV l p most).toNat) (Coll.zero, nextP l p)
theorem collStep_le {l : List Int} {s : Coll × Nat} (h : s.2 ≤ l.length) : (collStep l s).2 ≤ l.length := by
  have h1 := nextP_le h
  have h2 := nextP_le h1
  unfold collStep
  split
  · exact h2
  · exact (tblF_ok (id := 1 + nextV l (nextP l s.2) 4) h2).2.2
theorem collRun_le {l : List Int} : ∀ (n : Nat) {s : Coll × Nat}, s.2 ≤ l.length → (collRun l n s).2 ≤ l.length
  | 0, s, h => h
  | n + 1, s, h => collRun_le n (collStep_le h)
end Go.Sx.Sp
namespace Go.Sx.Sp
open Go Go.Sx Go.Proofs
attribute [local irreducible] GoodW
def awA : Table := ⟨1, [], [⟨[110], []⟩]⟩
def awB : Table := ⟨1, [], []⟩
def awC1 : Coll := ⟨1, 0, [⟨awA, 1, 0⟩]⟩
def awC2 : Coll := ⟨2, 0, [⟨awA, 1, 2⟩, ⟨awB, 2, 0⟩]⟩
theorem aw1 : putM Coll.zero awA = (awC1, 0) := by decide +kernel
theorem aw2 : putM awC1 awB = (awC2, 0) := by decide +kernel
theorem aw3 : atM awC2 1 = ([awA], 0) := by decide +kernel
theorem aw4 : atM awC2 2 = ([awB], 0) := by decide +kernel
theorem aw5 : collB awC2 = true := by decide +kernel
set_option maxHeartbeats 8000000 in
theorem awake_spec : Spec Tryd.prog 27 [] [] (.bool true) [] := by
  have sp1 := put_spec Coll.zero awA
  have sp2 := put_spec awC1 awB
  have sp3 := at_spec awC2 1 (by decide)
  have sp4 := at_spec awC2 2 (by decide)
  have sp5 := snapValid_spec awC2
  rw [aw1] at sp1
  rw [aw2] at sp2
  rw [aw3] at sp3
  rw [aw4] at sp4
  rw [aw5] at sp5
  refine Spec.body env Tryd.func27 rfl (by kernel_rfl) (Nat.le_of_ble_eq_true (by kernel_rfl)) (keysSub rfl) fun Γ hN hK => ?_
  repeat (first | refine gA ?_ | refine gB ?_ | refine gC rfl ?_ | refine gD rfl ?_ | ((first | refine gE env hN (by kernel_rfl) ?_ | refine gF ?_ | refine gG ?_ | refine gH fun hlen => ?_ | refine gI (by kernel_rfl) ?_ | refine gN rfl ?_ | refine gN (by omega) ?_ | refine gJ rfl ?_ | refine gK (by omega) ?_ | refine gL (by omega) ?_ | refine gK rfl ?_); conv => whnf))
  refine Or.inl ?_
  conv => whnf
  repeat ((first | refine gI (by kernel_rfl) ?_ | refine gH fun hlen => ?_ | refine gN rfl ?_ | refine gN (by omega) ?_ | refine gJ rfl ?_ | refine gK (by omega) ?_ | refine gL (by omega) ?_ | refine gK rfl ?_ | refine gO ?_); conv => whnf)
  refine gA ?_
  refine W.leG (mp := [(1, 1), (10, 10)]) (bo := []) (st' := ⟨[(1, .bp 1 0)], [(1, [.rows 3 [[.int .i64 1, .str [], .osl 10 0 0 1 1]] none]), (10, [.rows 2 [[.str [110], .sl [] false]] none])], [1, 10]⟩)
    (LeG.mk' rfl rfl rfl (by repeat' (first | exact trivial | exact ⟨_, .refl _, rfl⟩ | apply And.intro)) (.cons 1 rfl rfl (.refl _) rfl (.cons 10 (b1 := .rows 2 [[.str [110], .sl [] false]] none) rfl rfl (.rows _ _ _ ⟨⟨⟨.refl _, rfl⟩, ⟨.norm _, rfl⟩, trivial⟩, trivial⟩) rfl .nil)) rfl rfl (by rw [hK]; rfl)) ?_
  refine W.leG (mp := [(1, 1)]) (bo := [10]) (st' := ⟨[(1, .bp 1 0)], [(1, [.rows 3 [awA.row] none])], [1]⟩)
    (LeG.mk' rfl rfl rfl (by repeat' (first | exact trivial | exact ⟨_, .refl _, rfl⟩ | apply And.intro)) (.cons 1 (b1 := .rows 3 [awA.row] none) rfl rfl (.rows _ _ _ (by repeat' (first | exact trivial | exact ⟨Lent.refl _, rfl⟩ | exact ⟨Lent.norm _, rfl⟩ | exact ⟨Lent.whole rfl rfl (by first | rfl | exact List.length_append.symm | exact hlenR | simp) rfl (by first | exact .inl rfl | exact .inr rfl), rfl⟩ | apply And.intro))) rfl .nil) rfl rfl (by rw [hK]; rfl)) ?_
  repeat (first | refine gA ?_ | refine gB ?_ | refine gC rfl ?_ | refine gD rfl ?_ | ((first | refine gE env hN (by kernel_rfl) ?_ | refine gF ?_ | refine gG ?_ | refine gH fun hlen => ?_ | refine gI (by kernel_rfl) ?_ | refine gN rfl ?_ | refine gN (by omega) ?_ | refine gJ rfl ?_ | refine gK (by omega) ?_ | refine gL (by omega) ?_ | refine gK rfl ?_ | refine gO ?_); conv => whnf))
  (refine ⟨_, _, _, callG [] [] [] rfl rfl rfl (by kernel_rfl) (sp1) (by repeat' (first | exact trivial | exact Lent.refl _ | exact Lent.norm _ | apply And.intro)) rfl ⟨rfl, rfl, rfl, rfl, rfl, trivial, rfl, rfl⟩, ?_⟩; conv => whnf)
  repeat (first | refine gA ?_ | refine gB ?_ | refine gC rfl ?_ | refine gD rfl ?_ | ((first | refine gE env hN (by kernel_rfl) ?_ | refine gF ?_ | refine gG ?_ | refine gH fun hlen => ?_ | refine gI (by kernel_rfl) ?_ | refine gN rfl ?_ | refine gN (by omega) ?_ | refine gJ rfl ?_ | refine gK (by omega) ?_ | refine gL (by omega) ?_ | refine gK rfl ?_ | refine gO ?_); conv => whnf))
  (refine ⟨_, _, _, callG [] [] [] rfl rfl rfl (by kernel_rfl) (sp2) (by repeat' (first | exact trivial | exact Lent.refl _ | exact Lent.norm _ | apply And.intro)) rfl ⟨rfl, rfl, rfl, rfl, rfl, trivial, rfl, rfl⟩, ?_⟩; conv => whnf)
  repeat (first | refine gA ?_ | refine gB ?_ | refine gC rfl ?_ | refine gD rfl ?_ | ((first | refine gE env hN (by kernel_rfl) ?_ | refine gF ?_ | refine gG ?_ | refine gH fun hlen => ?_ | refine gI (by kernel_rfl) ?_ | refine gN rfl ?_ | refine gN (by omega) ?_ | refine gJ rfl ?_ | refine gK (by omega) ?_ | refine gL (by omega) ?_ | refine gK rfl ?_ | refine gO ?_); conv => whnf))
  (refine ⟨_, _, _, callG [] [] [] rfl rfl rfl (by kernel_rfl) (sp3) (by repeat' (first | exact trivial | exact Lent.refl _ | exact Lent.norm _ | apply And.intro)) rfl ⟨rfl, rfl, rfl, rfl, rfl, trivial, rfl, rfl⟩, ?_⟩; conv => whnf)
  repeat (first | refine gA ?_ | refine gB ?_ | refine gC rfl ?_ | refine gD rfl ?_ | ((first | refine gE env hN (by kernel_rfl) ?_ | refine gF ?_ | refine gG ?_ | refine gH fun hlen => ?_ | refine gI (by kernel_rfl) ?_ | refine gN rfl ?_ | refine gN (by omega) ?_ | refine gJ rfl ?_ | refine gK (by omega) ?_ | refine gL (by omega) ?_ | refine gK rfl ?_ | refine gO ?_); conv => whnf))
  (refine ⟨_, _, _, callG [] [] [] rfl rfl rfl (by kernel_rfl) (sp4) (by repeat' (first | exact trivial | exact Lent.refl _ | exact Lent.norm _ | apply And.intro)) rfl ⟨rfl, rfl, rfl, rfl, rfl, trivial, rfl, rfl⟩, ?_⟩; conv => whnf)
  repeat (first | refine gA ?_ | refine gB ?_ | refine gC rfl ?_ | refine gD rfl ?_ | ((first | refine gE env hN (by kernel_rfl) ?_ | refine gF ?_ | refine gG ?_ | refine gH fun hlen => ?_ | refine gI (by kernel_rfl) ?_ | refine gN rfl ?_ | refine gN (by omega) ?_ | refine gJ rfl ?_ | refine gK (by omega) ?_ | refine gL (by omega) ?_ | refine gK rfl ?_ | refine gO ?_); conv => whnf))
  (refine ⟨_, _, _, callG [] [] [] rfl rfl rfl (by kernel_rfl) (sp5) (by repeat' (first | exact trivial | exact Lent.refl _ | exact Lent.norm _ | apply And.intro)) rfl ⟨rfl, rfl, rfl, rfl, rfl, trivial, rfl, rfl⟩, ?_⟩; conv => whnf)
  repeat (first | refine gA ?_ | refine gB ?_ | refine gC rfl ?_ | refine gD rfl ?_ | ((first | refine gE env hN (by kernel_rfl) ?_ | refine gF ?_ | refine gG ?_ | refine gH fun hlen => ?_ | refine gI (by kernel_rfl) ?_ | refine gN rfl ?_ | refine gN (by omega) ?_ | refine gJ rfl ?_ | refine gK (by omega) ?_ | refine gL (by omega) ?_ | refine gK rfl ?_ | refine gO ?_ | refine gM ?_); conv => whnf))
  exact ret0 rfl rfl rfl
end Go.Sx.Sp
namespace Go.Sx.Sp
open Go Go.Sx Go.Proofs
theorem itemsOK_iff (v : Int) : ∀ (d l : List Item), itemsOK v d l = true ↔ (∀ x ∈ l, properB v x = true) ∧ (∀ x ∈ l, ∀ y ∈ d, clashB x y = false) ∧ l.Pairwise (fun y x => clashB x y = false)
  | d, [] => by simp [itemsOK]
  | d, x :: r => by
    simp only [itemsOK, Bool.and_eq_true, Bool.not_eq_true', List.any_eq_false, itemsOK_iff v (d ++ [x]) r, List.mem_cons, List.pairwise_cons, List.mem_append, List.not_mem_nil, or_false]
    constructor
    · rintro ⟨⟨h1, h2⟩, h3, h4, h5⟩
      refine ⟨?_, ?_, ?_, h5⟩
      · rintro y (rfl | hy)
        · exact h1
        · exact h3 y hy
      · rintro y (rfl | hy) z hz
        · exact by simpa using h2 z hz
        · exact h4 y hy z (.inl hz)
      · intro y hy
        exact h4 y hy x (.inr rfl)
    · rintro ⟨h1, h2, h3, h4⟩
      refine ⟨⟨h1 x (.inl rfl), fun y hy => by simpa using h2 x (.inl rfl) y hy⟩, fun y hy => h1 y (.inr hy), ?_, h4⟩
      rintro y hy z (hz | rfl)
      · exact h2 y (.inr hy) z hz
      · exact h3 y hy
theorem collB_iff (c : Coll) : collB c = true ↔ (0 ≤ c.oldest ∧ c.oldest ≤ c.version ∧ c.version ≤ 1073741824 ∧ c.items.length ≤ 1024) ∧ (∀ x ∈ c.items, properB c.version x = true) ∧ c.items.Pairwise (fun y x => clashB x y = false) := by
  simp only [collB, Bool.and_eq_true, decide_eq_true_eq, itemsOK_iff]
  simp
def closeI (v : Int) (x : Item) : Item := ⟨x.tab, x.from_, v⟩
theorem clash_iff (x y : Item) : clashB x y = false ↔ ¬ (y.tab.id = x.tab.id ∧ (y.until_ = 0 ∨ x.from_ < y.until_) ∧ (x.until_ = 0 ∨ y.from_ < x.until_)) := by
  simp only [clashB, overB, ← Bool.not_eq_true, Bool.and_eq_true, decide_eq_true_eq]
theorem clash_close1 {v : Int} {x y : Item} (hy : y.until_ = 0) (h : clashB x y = false) : clashB x (closeI v y) = false := by
  rw [clash_iff] at *
  show ¬ (y.tab.id = x.tab.id ∧ (v = 0 ∨ x.from_ < v) ∧ (x.until_ = 0 ∨ y.from_ < x.until_))
  omega
theorem clash_close2 {v : Int} {x y : Item} (hx : x.until_ = 0) (h : clashB x y = false) : clashB (closeI v x) y = false := by
  rw [clash_iff] at *
  show ¬ (y.tab.id = x.tab.id ∧ (y.until_ = 0 ∨ x.from_ < y.until_) ∧ (v = 0 ∨ y.from_ < v))
  omega
theorem proper_iff (v : Int) (x : Item) : properB v x = true ↔ validB x.tab = true ∧ 1 ≤ x.tab.id ∧ 1 ≤ x.from_ ∧ x.from_ ≤ v ∧ (x.until_ = 0 ∨ x.from_ < x.until_ ∧ x.until_ ≤ v) := by
  simp only [properB, restB, Bool.and_eq_true, decide_eq_true_eq]
theorem proper_up {v : Int} {x : Item} (h : properB v x = true) : properB (v + 1) x = true := by
  obtain ⟨h1, h2⟩ := (proper_iff _ _).1 h
  exact (proper_iff _ _).2 ⟨h1, by omega⟩
theorem proper_close {v : Int} {x : Item} (h : properB v x = true) : properB (v + 1) (closeI (v + 1) x) = true := by
  obtain ⟨h1, h2⟩ := (proper_iff _ _).1 h
  refine (proper_iff _ _).2 ⟨h1, ?_⟩
  show 1 ≤ x.tab.id ∧ 1 ≤ x.from_ ∧ x.from_ ≤ v + 1 ∧ (v + 1 = 0 ∨ x.from_ < v + 1 ∧ v + 1 ≤ v + 1)
  omega
theorem closeAt_get {l : List Item} {i : Nat} {v : Int} {j : Nat} (h : j < (closeAt l i v).length) (h' : j < l.length) : (closeAt l i v)[j] = if i = j then closeI v l[j] else l[j] := by
  unfold closeAt
  simp only [show (0 : Int) ≤ (i : Int) by omega, if_true, Int.toNat_natCast, List.getElem_modify]
  split <;> rfl
theorem close_ok {v : Int} {l : List Item} {i : Nat} (hi : i < l.length) (ho : l[i].until_ = 0) (h1 : ∀ x ∈ l, properB v x = true) (h2 : l.Pairwise (fun y x => clashB x y = false)) :
    (∀ x ∈ closeAt l i (v + 1), properB (v + 1) x = true) ∧ (closeAt l i (v + 1)).Pairwise (fun y x => clashB x y = false) := by
  have hlen := closeAt_len l i (v + 1)
  constructor
  · intro x hx
    obtain ⟨j, hj, rfl⟩ := List.mem_iff_getElem.1 hx
    rw [closeAt_get hj (by omega)]
    split
    · exact proper_close (h1 _ (List.getElem_mem _))
    · exact proper_up (h1 _ (List.getElem_mem _))
  · rw [List.pairwise_iff_getElem] at h2 ⊢
    intro a b ha hb hab
    have h3 := h2 a b (by omega) (by omega) hab
    rw [closeAt_get ha (by omega), closeAt_get hb (by omega)]
    by_cases e1 : i = a
    · subst e1
      rw [if_pos rfl, if_neg (by omega)]
      exact clash_close1 ho h3
    · rw [if_neg e1]
      by_cases e2 : i = b
      · subst e2
        rw [if_pos rfl]
        exact clash_close2 ho h3
      · rw [if_neg e2]; exact h3
theorem has_open {id : Int} {x : Item} (h : hasB id x = true) : x.tab.id = id ∧ x.until_ = 0 := by simpa [hasB] using h
theorem closed_new {v : Int} {l : List Item} {t : Table} (h1 : ∀ x ∈ l, properB v x = true) (h2 : l.Pairwise (fun y x => clashB x y = false)) (hv : 0 ≤ v) :
    (∀ x ∈ closeAt l (ixFrom (hasB t.id) l 0) (v + 1), properB (v + 1) x = true) ∧ (closeAt l (ixFrom (hasB t.id) l 0) (v + 1)).Pairwise (fun y x => clashB x y = false) ∧
      ∀ y ∈ closeAt l (ixFrom (hasB t.id) l 0) (v + 1), clashB ⟨t, v + 1, 0⟩ y = false := by
  have new : ∀ {y : Item}, properB v y = true → hasB t.id y = false → clashB ⟨t, v + 1, 0⟩ y = false := by
    intro y hp hh
    simp only [properB, restB, Bool.and_eq_true, decide_eq_true_eq] at hp
    simp only [hasB, decide_eq_false_iff_not] at hh
    simp only [clashB, overB, Bool.and_eq_false_iff, decide_eq_false_iff_not]
    omega
  rcases ixFrom_cases (hasB t.id) l 0 with ⟨h5, h6⟩ | ⟨i, hi, h5, h6⟩
  · have e : closeAt l (ixFrom (hasB t.id) l 0) (v + 1) = l := by rw [h5]; rfl
    rw [e]
    refine ⟨fun x hx => proper_up (h1 x hx), h2, fun y hy => new (h1 y hy) ?_⟩
    have := List.any_eq_false.1 h6 y hy
    simpa using this
  · rw [Nat.zero_add] at h5
    rw [h5]
    obtain ⟨hid, hop⟩ := has_open h6
    obtain ⟨g1, g2⟩ := close_ok hi hop h1 h2
    refine ⟨g1, g2, fun y hy => ?_⟩
    obtain ⟨j, hj, rfl⟩ := List.mem_iff_getElem.1 hy
    have hlen := closeAt_len l i (v + 1)
    rw [closeAt_get hj (by omega)]
    split
    · rename_i e
      subst e
      simp only [clashB, overB, closeI, Bool.and_eq_false_iff, decide_eq_false_iff_not]
      omega
    · rename_i e
      refine new (h1 _ (List.getElem_mem _)) ?_
      by_cases hh : hasB t.id l[j] = true
      · exfalso
        obtain ⟨hid2, hop2⟩ := has_open hh
        rw [List.pairwise_iff_getElem] at h2
        have hcl : ∀ {x y : Item}, x.tab.id = t.id → y.tab.id = t.id → x.until_ = 0 → y.until_ = 0 → clashB x y = false → False := by
          intro x y a b c d h
          simp only [clashB, overB, Bool.and_eq_false_iff, decide_eq_false_iff_not] at h
          omega
        rcases Nat.lt_or_gt_of_ne e with e | e
        · exact hcl hid2 hid hop2 hop (h2 i j hi (by omega) e)
        · exact hcl hid hid2 hop hop2 (h2 j i (by omega) hi e)
      · simpa using hh
theorem put_ok {c : Coll} {t : Table} (hc : collB c = true) (ht : validB t = true) (hid : 1 ≤ t.id) (hn : c.items.length < 1024) (hv : c.version < 1073741824) :
    (putM c t).2 = 0 ∧ collB (putM c t).1 = true ∧ (putM c t).1.version = c.version + 1 ∧ (putM c t).1.oldest = c.oldest ∧ (putM c t).1.items = closeAt c.items (ixFrom (hasB t.id) c.items 0) (c.version + 1) ++ [⟨t, c.version + 1, 0⟩] := by
  have hm : putM c t = (⟨c.version + 1, c.oldest, closeAt c.items (ixFrom (hasB t.id) c.items 0) (c.version + 1) ++ [⟨t, c.version + 1, 0⟩]⟩, 0) := by
    have h4 : ¬ (1024 ≤ c.items.length ∨ 1073741824 ≤ c.version) := by omega
    simp [putM, hc, ht, hid, h4]
  rw [hm]
  refine ⟨rfl, ?_, rfl, rfl, rfl⟩
  obtain ⟨h0, h1, h2⟩ := (collB_iff c).1 hc
  obtain ⟨g1, g2, g3⟩ := closed_new (t := t) h1 h2 (by omega)
  refine (collB_iff _).2 ⟨⟨h0.1, by show c.oldest ≤ c.version + 1; omega, by show c.version + 1 ≤ 1073741824; omega, ?_⟩, ?_, ?_⟩
  · simp only [List.length_append, closeAt_len, List.length_singleton]; omega
  · intro x hx
    rcases List.mem_append.1 hx with hx | hx
    · exact g1 x hx
    · simp only [List.mem_singleton] at hx
      subst hx
      refine (proper_iff _ _).2 ⟨ht, ?_⟩
      show 1 ≤ t.id ∧ 1 ≤ c.version + 1 ∧ c.version + 1 ≤ c.version + 1 ∧ ((0 : Int) = 0 ∨ _)
      omega
  · rw [List.pairwise_append]
    refine ⟨g2, List.pairwise_singleton _ _, fun y hy x hx => ?_⟩
    simp only [List.mem_singleton] at hx
    subst hx
    exact g3 y hy
theorem drop_ok {c : Coll} {id : Int} {i : Nat} (hc : collB c = true) (hi : i < c.items.length) (hx : ixFrom (hasB id) c.items 0 = i) (hv : c.version < 1073741824) :
    (dropM c id).2 = 0 ∧ collB (dropM c id).1 = true ∧ (dropM c id).1.version = c.version + 1 ∧ (dropM c id).1.oldest = c.oldest ∧ (dropM c id).1.items = closeAt c.items i (c.version + 1) := by
  have hm : dropM c id = (⟨c.version + 1, c.oldest, closeAt c.items i (c.version + 1)⟩, 0) := by
    simp [dropM, hc, hx, show ¬ ((i : Int) < 0) by omega, show ¬ (1073741824 ≤ c.version) by omega]
  rw [hm]
  refine ⟨rfl, ?_, rfl, rfl, rfl⟩
  obtain ⟨h0, h1, h2⟩ := (collB_iff c).1 hc
  have ho : c.items[i].until_ = 0 := by
    rcases ixFrom_cases (hasB id) c.items 0 with ⟨h5, h6⟩ | ⟨j, hj, h5, h6⟩
    · omega
    · have : i = j := by omega
      subst this
      exact (has_open h6).2
  obtain ⟨g1, g2⟩ := close_ok hi ho h1 h2
  refine (collB_iff _).2 ⟨⟨h0.1, by show c.oldest ≤ c.version + 1; omega, by show c.version + 1 ≤ 1073741824; omega, ?_⟩, g1, g2⟩
  simp only [closeAt_len]; omega
end Go.Sx.Sp
namespace Go.Sx.Sp
open Go Go.Sx Go.Proofs
theorem fine_good {s : Str} (h : GoodText s) : fineB s = true := by
  have h1 := validD_good h.2
  have h2 := h.1
  simp [fineB, h1]; omega
theorem cell_good {c : Cell} (h : GoodCell c) : cellB c = true := by
  have h1 := fine_good h.text
  cases hn : c.null with
  | false => simp [cellB, h1, hn]
  | true =>
    have h2 := h.null hn
    rw [h2] at h1
    simp [cellB, hn, h2, h1]
theorem table_good {t : Table} (h : GoodTable t) (hid : 0 ≤ t.id ∧ t.id ≤ 1073741824) : validB t = true := by
  obtain ⟨n, hn, hc⟩ := h.cols
  have hf := h.few
  have hr : rowsN t ≤ 6 ∧ (∀ c ∈ t.cols, c.cells.length = rowsN t) := by
    unfold rowsN
    cases he : t.cols with
    | nil => simp
    | cons c r =>
      have h1 := (hc c (by rw [he]; simp)).len
      refine ⟨by show c.cells.length ≤ 6; omega, fun d hd => ?_⟩
      have h2 := (hc d (by rw [he]; exact hd)).len
      show d.cells.length = c.cells.length
      omega
  have hb : t.cols.any (badCol t) = false := by
    rw [List.any_eq_false]
    intro c hcm
    have h3 := hc c hcm
    have h4 := fine_good h3.name
    have h5 : c.cells.all cellB = true := List.all_eq_true.2 fun x hx => cell_good (h3.cells x hx)
    simp [badCol, h4, h5, hr.2 c hcm]
  have h6 := fine_good h.name
  simp only [validB, headB, hb, h6, Bool.and_eq_true, decide_eq_true_eq, Bool.not_false]
  exact ⟨⟨⟨⟨hid, trivial⟩, by omega⟩, by omega⟩, trivial⟩
structure Inv (n : Nat) (c : Coll) : Prop where
  ok : collB c = true
  ver : c.version ≤ n
  len : c.items.length ≤ n
  old : c.oldest = 0
  ids : ∀ x ∈ c.items, 1 ≤ x.tab.id ∧ x.tab.id ≤ 4
theorem Inv.zero : Inv 0 Coll.zero := ⟨by decide, by decide, by decide, rfl, fun x hx => by cases hx⟩
theorem Inv.mono {n m : Nat} {c : Coll} (h : Inv n c) (hm : n ≤ m) : Inv m c := ⟨h.ok, by have := h.ver; omega, by have := h.len; omega, h.old, h.ids⟩
theorem closeAt_mem {l : List Item} {i v : Int} {x : Item} (h : x ∈ closeAt l i v) : ∃ y ∈ l, x.tab = y.tab := by
  obtain ⟨j, hj, rfl⟩ := List.mem_iff_getElem.1 h
  have hl := closeAt_len l i v
  refine ⟨l[j]'(by omega), List.getElem_mem _, ?_⟩
  unfold closeAt
  split
  · simp only [List.getElem_modify]
    split <;> rfl
  · rfl
theorem Inv.put {n : Nat} {c : Coll} {t : Table} (h : Inv n c) (hn : n ≤ 100) (ht : validB t = true) (hid : 1 ≤ t.id ∧ t.id ≤ 4) : Inv (n + 1) (putM c t).1 := by
  have h1 := h.ver
  have h2 := h.len
  obtain ⟨_, g1, g2, g3, g4⟩ := put_ok h.ok ht hid.1 (by omega) (by omega)
  refine ⟨g1, by omega, by rw [g4]; simp [closeAt_len]; omega, by rw [g3]; exact h.old, fun x hx => ?_⟩
  rw [g4] at hx
  rcases List.mem_append.1 hx with hx | hx
  · obtain ⟨y, hy, e⟩ := closeAt_mem hx
    rw [e]; exact h.ids y hy
  · simp only [List.mem_singleton] at hx
    subst hx; exact hid
theorem Inv.drop {n : Nat} {c : Coll} {id : Int} (h : Inv n c) (hn : n ≤ 100) (h0 : (dropM c id).2 = 0) : Inv (n + 1) (dropM c id).1 := by
  have h1 := h.ver
  have h2 := h.len
  rcases ixFrom_cases (hasB id) c.items 0 with ⟨h5, h6⟩ | ⟨i, hi, h5, h6⟩
  · have : dropM c id = (Coll.zero, 5) := by simp [dropM, h.ok, h5]
    rw [this] at h0
    exact absurd h0 (by decide)
  · rw [Nat.zero_add] at h5
    obtain ⟨_, g1, g2, g3, g4⟩ := drop_ok h.ok hi h5 (by omega)
    refine ⟨g1, by omega, by rw [g4]; simp [closeAt_len]; omega, by rw [g3]; exact h.old, fun x hx => ?_⟩
    rw [g4] at hx
    obtain ⟨y, hy, e⟩ := closeAt_mem hx
    rw [e]; exact h.ids y hy
theorem collStep_inv {l : List Int} {n : Nat} {s : Coll × Nat} (hn : n ≤ 100) (hp : s.2 ≤ l.length) (h : Inv n s.1) : Inv (n + 1) (collStep l s).1 := by
  have hp1 := nextP_le hp
  have hp2 := nextP_le hp1
  have hr := nextV_range l (nextP l s.2) (n := 4) (by omega)
  unfold collStep
  split
  · show Inv (n + 1) (if _ then _ else _)
    split
    · rename_i h0
      exact h.drop hn h0
    · exact h.mono (by omega)
  · obtain ⟨g1, g2, _⟩ := tblF_ok (id := 1 + nextV l (nextP l s.2) 4) hp2
    exact h.put hn (table_good g1 (by rw [g2]; omega)) (by rw [g2]; omega)
theorem collRun_inv {l : List Int} : ∀ (k n : Nat) {s : Coll × Nat}, n + k ≤ 100 → s.2 ≤ l.length → Inv n s.1 → Inv (n + k) (collRun l k s).1
  | 0, n, s, _, _, h => h
  | k + 1, n, s, hn, hp, h => by
    have := collRun_inv k (n + 1) (by omega) (collStep_le hp) (collStep_inv (by omega) hp h)
    rw [show n + (k + 1) = n + 1 + k by omega]
    exact this
theorem collF_inv {l : List Int} {p : Nat} {most : Nat} (hp : p ≤ l.length) (hm : 1 ≤ most ∧ most ≤ 99) : Inv most (collF l most p).1 ∧ (collF l most p).2 ≤ l.length := by
  have hr := nextV_range l p (n := most) (by omega)
  have hp1 := nextP_le hp
  refine ⟨?_, collRun_le _ hp1⟩
  have := collRun_inv (l := l) (1 + (nextV l p most).toNat) 0 (s := (Coll.zero, nextP l p)) (by omega) hp1 Inv.zero
  exact this.mono (by omega)
end Go.Sx.Sp
namespace Go.Sx.Sp
open Go Go.Sx Go.Proofs
attribute [local irreducible] GoodW
end Go.Sx.Sp
