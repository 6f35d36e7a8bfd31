/- Rows that joining gives, what they say, and the law of the report of these rows. -/
import Derived.Test.YtoneemdpilpnfaaDoorJSix
import Derived.Test.YtoneemdpilpnfaaDoorJFour
import Derived.Test.YtoneemdpilpnfaaDoorSxFour
set_option linter.unusedVariables false
set_option linter.unusedSimpArgs false
namespace Go.Sx.Sp
open Go Go.Sx Go.Proofs
attribute [local irreducible] GoodW famL
def tabsM (l : List Table) (p : Pth) : List Table := tabOf l p.start :: p.steps.map fun s => tabOf l s.tt
theorem tabsM_len (l : List Table) (p : Pth) : (tabsM l p).length = p.steps.length + 1 := by simp [tabsM]
theorem tabsM_get (l : List Table) (p : Pth) {i : Nat} (h : i ≤ p.steps.length) : (tabsM l p)[i]? = some (tabN l p i) := by
  cases i with
  | zero => rfl
  | succ q =>
    have hq : q < p.steps.length := by omega
    unfold tabsM tabN nodeAt stpAt
    simp [hq]
set_option maxHeartbeats 8000000 in
theorem tables31_spec (l : List Table) (p : Pth) (hl : p.steps.length ≤ 100) : Spec Tryd.prog 27 [.sl (tblRows l) false, .agg p.row] [] (.sl (tblRows (tabsM l p)) false) [] := by
  have sp1 := find3_spec l p.start
  have hst : (findT l p.start).getD Table.zero = tabOf l p.start := rfl
  rw [hst] at sp1
  generalize (findT l p.start).isSome = b1 at *
  have hsl := stpRows_len p.steps
  have h0 : tblRows [tabOf l p.start] = [(tabOf l p.start).row] := rfl
  refine gEn env Tryd.func27 fun Γ hN hK hML => ?_
  (refine gGo ?_; intros)
  (refine gPC (sp1) ?_; conv => whnf)
  (refine gGl ?_; intros)
  refine Or.inl ?_
  conv => whnf
  (refine gGo ?_; intros)
  refine W.leG (mp := [(3, 3), (20, 20)]) (bo := []) (st' := ⟨[(0, .sl (tblRows l) false), (7, .osl 20 0 0 1 1), (22, .sl (stpRows p.steps) false), (23, .int .i64 (stpRows p.steps).length), (24, .int .i64 0)], [(3, [.rows 2 [p.row] none]), (20, [.rows 3 (tblRows [tabOf l p.start]) (some [])])], [3, 20]⟩)
    (LeG.mq (.ci 3 (.cons 20 (b1 := .rows 3 (tblRows [tabOf l p.start]) (some [])) rfl rfl (.pure _ (tblRows [tabOf l p.start]) _ ?_) rfl .nil))) ?_
  · intro r hr v hv
    rw [h0] at hr
    rw [List.mem_singleton.1 hr] at hv
    simp only [Table.row, List.mem_cons, List.not_mem_nil, or_false] at hv
    rcases hv with rfl | rfl | rfl <;> rfl
  refine W.loopG (fun n st => ∃ (k : Nat) (out : List Table), k ≤ p.steps.length ∧ out = tabOf l p.start :: (p.steps.take k).map (fun s => tabOf l s.tt) ∧ n = p.steps.length - k ∧ st = ⟨[(0, .sl (tblRows l) false), (7, .osl 20 0 0 (tblRows out).length (tblRows out).length), (22, .sl (stpRows p.steps) false), (23, .int .i64 (stpRows p.steps).length), (24, .int .i64 k)], [(3, [.rows 2 [p.row] none]), (20, [.rows 3 (tblRows out) (some [])])], [3, 20]⟩)
    p.steps.length _ ⟨0, [tabOf l p.start], by omega, rfl, by omega, rfl⟩ ⟨[(3, 3), (20, 20)], [], [], .mq (.ci 3 (.ci 20 .nil))⟩ ?_
  rintro n st ⟨k, out, hk, hout, rfl, rfl⟩
  have hol := tblRows_len out
  have hol2 : out.length = k + 1 := by rw [hout, List.length_cons, List.length_map, List.length_take]; omega
  (refine gGo ?_; intros)
  refine boolRes_split (fun hb => ?_) (fun hb => ?_) <;> conv => whnf
  · have hkl : k < p.steps.length := by omega
    have hg := stpRows_get hkl
    have sp2 := find3_spec l p.steps[k].tt
    have hst2 : (findT l p.steps[k].tt).getD Table.zero = tabOf l p.steps[k].tt := rfl
    rw [hst2] at sp2
    generalize (findT l p.steps[k].tt).isSome = b2 at *
    have hnx : tabOf l p.start :: (p.steps.take (k + 1)).map (fun s => tabOf l s.tt) = (tabOf l p.start :: (p.steps.take k).map (fun s => tabOf l s.tt)) ++ [tabOf l p.steps[k].tt] := by
      rw [List.take_succ_eq_append_getElem hkl, List.map_append]; rfl
    generalize p.steps[k] = s at *
    (refine gGo ?_; intros)
    refine rowAt_of (by simpa using hg) ?_
    conv => whnf
    (refine gGo ?_; intros)
    (refine gPC (sp2) ?_; conv => whnf)
    (refine gGo ?_; intros)
    refine ⟨⟨rowsSz_cons rfl rowsSz_nil, rfl⟩, fitsN (n := (tblRows out).length + 1) (b := 48) (by omega) (by omega), .inl ⟨rfl, rfl, ?_⟩⟩
    conv => whnf
    (refine gGo ?_; intros)
    refine ⟨_, _, ?_, ⟨k + 1, out ++ [tabOf l s.tt], by omega, (by rw [hnx, hout]), rfl, rfl⟩, [(3, 3), (20, 20)], [], [], ?_⟩
    · omega
    · have e := tblRows_snoc out (tabOf l s.tt)
      rw [e, List.length_append]
      exact LeG.mq (.ci 3 (.ci 20 .nil))
  · have hke : k = p.steps.length := by omega
    subst hke
    rw [List.take_length] at hout
    rw [show tabsM l p = out from hout.symm]
    (refine gGo ?_; intros)
    refine W.leG (mp := []) (bo := [20]) (st' := ⟨[(4, .sl (tblRows out) false)], [], []⟩)
      (LeG.mk' rfl rfl rfl ⟨⟨_, Lent.whole rfl rfl rfl rfl (.inl rfl), rfl⟩, trivial⟩ .nil rfl rfl (by rw [hK]; rfl)) ?_
    (refine gM ?_; conv => whnf)
    exact ret0 rfl rfl rfl
set_option maxHeartbeats 4000000 in
theorem fit_spec (a b : Cell) : Spec Tryd.prog 66 [.agg a.row, .agg b.row] [] (.bool (fitC a b)) [] := by
  obtain ⟨an, at_⟩ := a
  obtain ⟨bn, bt⟩ := b
  refine gEn env Tryd.func66 fun Γ hN hK hML => ?_
  cases an with
  | true =>
    rw [show fitC ⟨true, at_⟩ ⟨bn, bt⟩ = false from rfl]
    (refine gGr ?_; intros)
    exact ret0 rfl rfl rfl
  | false =>
    cases bn with
    | true =>
      rw [show fitC ⟨false, at_⟩ ⟨true, bt⟩ = false from rfl]
      (refine gGr ?_; intros)
      exact ret0 rfl rfl rfl
    | false =>
      rw [show fitC ⟨false, at_⟩ ⟨false, bt⟩ = decide (at_ = bt) from rfl]
      (refine gGo ?_; intros)
      refine boolRes_keep ?_
      conv => whnf
      (refine gGr ?_; intros)
      exact ret0 rfl rfl rfl
end Go.Sx.Sp
namespace Go.Sx.Sp
open Go Go.Sx Go.Proofs
attribute [local irreducible] GoodW famL
section
variable (l : List Table) (p : Pth)
def extF (g : List Nat → List (List Nat)) (hv : List Nat) (y : Nat) : List (List Nat) := if stepFits l p (hv.length - 1) (hv.getD (parI p (hv.length - 1)) 0) y = true then g (hv ++ [y]) else []
def extN (g : List Nat → List (List Nat)) (hv : List Nat) (n : Nat) : List (List Nat) := (List.range n).flatMap (extF l p g hv)
def ext : Nat → List Nat → List (List Nat)
  | 0, hv => [hv]
  | k + 1, hv => extN l p (ext k) hv (rowsN (tabN l p hv.length))
def rowsOfP (n : Nat) : List (List Nat) := (List.range n).flatMap fun r => ext l p p.steps.length [r]
def rowsL : List (List Nat) := rowsOfP l p (rowsN (tabN l p 0))
end
def rowRows (L : List (List Nat)) : List (List V) := L.map fun r => [.sl (natRows r) false]
theorem rowRows_len (L : List (List Nat)) : (rowRows L).length = L.length := by simp [rowRows]
theorem rowRows_get {L : List (List Nat)} {i : Nat} (h : i < L.length) : (rowRows L)[i]? = some [.sl (natRows L[i]) false] := by simp [rowRows, h]
theorem rowRows_snoc (a : List (List Nat)) (t : List Nat) : rowRows (a ++ [t]) = rowRows a ++ [[.sl (natRows t) false]] := by simp [rowRows]
theorem natRows_sz (l : List Nat) : rowsSz (natRows l) 1 := by
  unfold rowsSz natRows
  intro r hr
  obtain ⟨c, _, rfl⟩ := List.mem_map.1 hr
  rfl
theorem natRows_pure (l : List Nat) : pureB (natRows l) = true := by
  unfold pureB natRows
  rw [List.all_eq_true]
  intro r hr
  obtain ⟨c, _, rfl⟩ := List.mem_map.1 hr
  rfl
def outH (out : List (List Nat)) : List (Nat × Blk) := [(0, .rows 1 [[.osl 1 0 0 (rowRows out).length (rowRows out).length]] none), (1, .rows 1 (rowRows out) (some []))]
theorem take_more {α : Type} {a b : List α} {n : Nat} (h : n ≤ a.length) : (a ++ b).take n = a.take n := List.take_append_of_le_length h
theorem extN_succ (l : List Table) (p : Pth) (g : List Nat → List (List Nat)) (hv : List Nat) (n : Nat) : extN l p g hv (n + 1) = extN l p g hv n ++ extF l p g hv n := range_flat _ _
theorem extN_split (l : List Table) (p : Pth) (g : List Nat → List (List Nat)) (hv : List Nat) {y n : Nat} (h : y ≤ n) : ∃ R, extN l p g hv n = extN l p g hv y ++ R := by
  induction n with
  | zero => obtain rfl : y = 0 := by omega
            exact ⟨[], by simp⟩
  | succ n ih =>
    by_cases e : y = n + 1
    · subst e; exact ⟨[], by simp⟩
    · obtain ⟨R, hR⟩ := ih (by omega)
      exact ⟨R ++ extF l p g hv n, by rw [extN_succ, hR, List.append_assoc]⟩
set_option maxHeartbeats 32000000 in
theorem extend_spec {l : List Table} {p : Pth} (h : validE l p = 0) : ∀ (k : Nat) (hv : List Nat) (out : List (List Nat)), hv ≠ [] → hv.length + k = p.steps.length + 1 → (∀ i (hi : i < hv.length), hv[i] < rowsN (tabN l p i)) → out.length ≤ 4096 →
    Spec Tryd.prog 82 [.sl (tblRows (tabsM l p)) false, .agg p.row, .sl (natRows hv) false, .bp 0 0] (outH out) (.bool (decide (out.length + (ext l p k hv).length ≤ 4096))) (outH ((out ++ ext l p k hv).take 4096))
  | 0, hv, out, hne, hlen, hlt, hout => by
    have hnl := natRows_len hv
    have hsl := stpRows_len p.steps
    have hrl := rowRows_len out
    have hnz := natRows_sz hv
    have hnp := natRows_pure hv
    have h4 := (valid_path h).2.1
    have he : ext l p 0 hv = [hv] := rfl
    rw [he, List.length_singleton]
    unfold outH
    refine gEn env Tryd.func82 fun Γ hN hK hML => ?_
    (refine gGo ?_; intros)
    by_cases hfull : out.length = 4096
    · rw [decide_eq_false (by omega), take_more (by omega), List.take_of_length_le (by omega)]
      (refine gGo ?_; intros)
      (refine gM ?_; conv => whnf)
      exact retH rfl (.refl _) rfl rfl rfl ⟨rfl, rfl, rfl, rfl, trivial⟩
    · rw [decide_eq_true (by omega), List.take_of_length_le (by rw [List.length_append, List.length_singleton]; omega)]
      have hsn := rowRows_snoc out hv
      (refine gGo ?_; intros)
      refine ⟨fitsN (n := (natRows hv).length) (b := 8) (by omega) (by omega), Or.inr ⟨⟨rfl, rfl, rfl, hnp⟩, ?_⟩⟩
      conv => whnf
      (refine gGo ?_; intros)
      refine ⟨⟨rowsSz_cons rfl rowsSz_nil, rfl⟩, fitsN (n := (rowRows out).length + 1) (b := 24) (by omega) (by omega), .inl ⟨rfl, rfl, ?_⟩⟩
      conv => whnf
      (refine gGo ?_; intros)
      rw [hsn, List.length_append]
      (refine gM ?_; conv => whnf)
      exact retH rfl (.refl _) rfl rfl rfl ⟨rfl, rfl, rfl, rfl, trivial⟩
  | k + 1, hv, out, hne, hlen, hlt, hout => by
    have ih := extend_spec h k
    have hv2 := valid_path h
    have hnl := natRows_len hv
    have hsl := stpRows_len p.steps
    have hnz := natRows_sz hv
    have hpos : 0 < hv.length := List.length_pos_iff.2 hne
    obtain ⟨n, hn⟩ : ∃ n, hv.length = n + 1 := ⟨hv.length - 1, by omega⟩
    have hnp : n < p.steps.length := by omega
    have hsf := pathB_step hv2.2.2 hnp
    have hpar := parI_le p (i := n) (by omega)
    have hsg := stpRows_get hnp
    have hst : stpAt p n = p.steps[n] := by simp [stpAt, hnp]
    have hfc := hsf.fc
    have htc := hsf.tc
    have hold := hsf.old
    rw [hst] at hfc htc hold
    have spP := place_spec p n p.steps[n].ft (by omega) (by omega)
    have hpz : placeZ p n p.steps[n].ft = (parI p n : Int) := by
      unfold placeZ parI placeI
      rw [hst]
      cases hx : ixI p.steps[n].ft (befT p n) with
      | none => exact absurd hold (ixI_none.1 hx)
      | some i => rfl
    rw [hpz] at spP
    have htl := tblRows_len (tabsM l p)
    have hml := tabsM_len l p
    have hg1 : (tblRows (tabsM l p))[parI p n]? = some (tabN l p (parI p n)).row := by
      have := tabsM_get l p (i := parI p n) (by omega)
      unfold tblRows
      rw [List.getElem?_map, this]; rfl
    have hg2 : (tblRows (tabsM l p))[n + 1]? = some (tabN l p (n + 1)).row := by
      have := tabsM_get l p (i := n + 1) (by omega)
      unfold tblRows
      rw [List.getElem?_map, this]; rfl
    have ht1 : tabN l p (parI p n) = tabOf l p.steps[n].ft := by
      have := par_tab (l := l) hnp (show (stpAt p n).ft ∈ befT p n by rw [hst]; exact hold) p.steps.length
      rw [hst] at this
      exact this
    have ht2 : tabN l p (n + 1) = tabOf l p.steps[n].tt := by
      show tabOf l (stpAt p n).tt = _
      rw [hst]
    have hf1 : frN l p (n + 1) = p.steps[n].fc.toNat := by
      show (stpAt p n).fc.toNat = _
      rw [hst]
    have hf2 : ownN l p (n + 1) = p.steps[n].tc.toNat := by
      show (stpAt p n).tc.toNat = _
      rw [hst]
    have hvt1 := tabOf_rows hv2.1 p.steps[n].ft
    have hvt2 := tabOf_rows hv2.1 p.steps[n].tt
    rw [← ht1] at hvt1
    rw [← ht2] at hvt2
    rw [← ht1] at hfc
    rw [← ht2] at htc
    obtain ⟨x, hx1⟩ : ∃ x, hv[parI p n]? = some x := ⟨_, List.getElem?_eq_getElem (by omega)⟩
    have hr : x < rowsN (tabN l p (parI p n)) := by
      obtain ⟨hi, hxe⟩ := List.getElem?_eq_some_iff.1 hx1
      rw [← hxe]; exact hlt _ hi
    have hge : (natRows hv)[parI p n]? = some [.int .i64 (x : Int)] := by
      unfold natRows
      rw [List.getElem?_map, hx1]; rfl
    have hgd : hv.getD (parI p n) 0 = x := by
      rw [List.getD_eq_getElem?_getD, hx1]; rfl
    have hsF : ∀ y, stepFits l p n (hv.getD (parI p n) 0) y = fitC (cellT (tabN l p (parI p n)) p.steps[n].fc.toNat x) (cellT (tabN l p (n + 1)) p.steps[n].tc.toNat y) := fun y => by
      unfold stepFits
      rw [hgd, hf1, hf2]
    have hX : ∀ y, extF l p (ext l p k) hv y = if fitC (cellT (tabN l p (parI p n)) p.steps[n].fc.toNat x) (cellT (tabN l p (n + 1)) p.steps[n].tc.toNat y) = true then ext l p k (hv ++ [y]) else [] := fun y => by
      unfold extF
      rw [hn, Nat.add_sub_cancel, hsF]
    have hE : ext l p (k + 1) hv = extN l p (ext l p k) hv (rowsN (tabN l p (n + 1))) := by
      show extN l p (ext l p k) hv (rowsN (tabN l p hv.length)) = _
      rw [hn]
    rw [hE]
    have hlt2 : ∀ y, y < rowsN (tabN l p (n + 1)) → ∀ i (hi : i < (hv ++ [y]).length), (hv ++ [y])[i] < rowsN (tabN l p i) := fun y hy i hi => by
      rw [List.getElem_append]
      split
      · exact hlt i _
      · have : i = n + 1 := by rw [List.length_append, List.length_singleton] at hi; omega
        subst this
        simpa using hy
    clear hsF hE hlt hgd hold hsf ht1 ht2 hf1 hf2 hpz hst hx1
    generalize tabN l p (parI p n) = ta at *
    generalize htbe : tabN l p (n + 1) = tb at *
    generalize p.steps[n] = s at *
    obtain ⟨c1, hc1⟩ : ∃ c1 : Nat, s.fc = c1 := ⟨_, (Int.toNat_of_nonneg hfc.1).symm⟩
    obtain ⟨c2, hc2⟩ : ∃ c2 : Nat, s.tc = c2 := ⟨_, (Int.toNat_of_nonneg htc.1).symm⟩
    have hc1l : c1 < ta.cols.length := by omega
    have hc2l : c2 < tb.cols.length := by omega
    rw [hc1, hc2] at hX
    simp only [Int.toNat_natCast] at hX
    have k1 := colRows_get hc1l
    have k2 := colRows_get hc2l
    have l1 := hvt1.2 _ (List.getElem_mem hc1l)
    have l2 := hvt2.2 _ (List.getElem_mem hc2l)
    have hxl : x < (ta.cols[c1]).cells.length := by omega
    have k3 := cellRows_get hxl
    have hce : cellT ta c1 x = (ta.cols[c1]).cells[x] := by
      unfold cellT
      simp [hc1l, hxl]
    have hcf : ∀ y (hy : y < (tb.cols[c2]).cells.length), cellT tb c2 y = (tb.cols[c2]).cells[y] := fun y hy => by
      unfold cellT
      simp [hc2l, hy]
    simp only [hce] at hX
    have hcl2 := cellRows_len (tb.cols[c2]).cells
    have hgc := fun y (hy : y < (tb.cols[c2]).cells.length) => cellRows_get hy
    generalize (ta.cols[c1]).cells[x] = ca at *
    generalize hca1 : ta.cols[c1] = colA at *
    generalize hca2 : tb.cols[c2] = colB at *
    have htaC := colRows_len ta.cols
    have htbC := colRows_len tb.cols
    generalize parI p n = pa at *
    unfold outH
    refine gEn env Tryd.func82 fun Γ hN hK hML => ?_
    (refine gGo ?_; intros)
    refine rowAt_of (r := s.row) (by rw [show (((natRows hv).length : Int) - 1).toNat = n by omega]; exact hsg) ?_
    conv => whnf
    rw [show ((natRows hv).length : Int) - 1 = (n : Int) by omega]
    (refine gGo ?_; intros)
    (refine gPC (spP) ?_; conv => whnf)
    (refine gGo ?_; intros)
    refine rowAt_of (r := ta.row) (by simpa using hg1) ?_
    conv => whnf
    (refine gGo ?_; intros)
    refine rowAt_of (r := colA.row) (by rw [hc1, Int.toNat_natCast]; exact k1) ?_
    conv => whnf
    (refine gGo ?_; intros)
    refine rowAt_of (r := [.int .i64 (x : Int)]) (by simpa using hge) ?_
    conv => whnf
    (refine gGo ?_; intros)
    refine rowAt_of (r := ca.row) (by simpa using k3) ?_
    conv => whnf
    (refine gGo ?_; intros)
    refine rowAt_of (r := tb.row) (by rw [show ((n : Int) + 1).toNat = n + 1 by omega]; exact hg2) ?_
    conv => whnf
    (refine gGo ?_; intros)
    refine rowAt_of (r := colB.row) (by rw [hc2, Int.toNat_natCast]; exact k2) ?_
    conv => whnf
    (refine gGo ?_; intros)
    generalize ext l p k = g at *
    refine W.leG (mp := [(0, 0), (1, 1), (5, 5), (12, 12)]) (bo := []) (st' := ⟨[(0, .sl (tblRows (tabsM l p)) false), (2, .sl (natRows hv) false), (3, .bp 0 0), (5, .bp 5 0), (12, .bp 12 0), (76, .sl (cellRows colB.cells) false), (77, .int .i64 (cellRows colB.cells).length), (78, .int .i64 (0 : Nat))], [(0, [.rows 1 [[.osl 1 0 0 (rowRows out).length (rowRows out).length]] none]), (1, [.rows 1 (rowRows out) (some [])]), (5, [.rows 2 [p.row] none]), (12, [.rows 2 [ca.row] none])], [0, 1, 5, 12]⟩)
      (LeG.mq (.ci 0 (.ci 1 (.ci 5 (.ci 12 .nil))))) ?_
    refine W.loopG (fun m st => ∃ (y : Nat) (o : List (List Nat)), y ≤ colB.cells.length ∧ o = out ++ extN l p g hv y ∧ o.length ≤ 4096 ∧ m = colB.cells.length - y ∧ st = ⟨[(0, .sl (tblRows (tabsM l p)) false), (2, .sl (natRows hv) false), (3, .bp 0 0), (5, .bp 5 0), (12, .bp 12 0), (76, .sl (cellRows colB.cells) false), (77, .int .i64 (cellRows colB.cells).length), (78, .int .i64 (y : Nat))], [(0, [.rows 1 [[.osl 1 0 0 (rowRows o).length (rowRows o).length]] none]), (1, [.rows 1 (rowRows o) (some [])]), (5, [.rows 2 [p.row] none]), (12, [.rows 2 [ca.row] none])], [0, 1, 5, 12]⟩)
      colB.cells.length _ ⟨0, out, by omega, by simp [extN], hout, by omega, rfl⟩ ⟨[(0, 0), (1, 1), (5, 5), (12, 12)], [], [], .mq (.ci 0 (.ci 1 (.ci 5 (.ci 12 .nil))))⟩ ?_
    rintro m st ⟨y, o, hy, ho, hol, rfl, rfl⟩
    (refine gGo ?_; intros)
    refine boolRes_split (fun hb => ?_) (fun hb => ?_) <;> conv => whnf
    · have hyl : y < colB.cells.length := by omega
      have hgy := hgc y hyl
      have hXy := hX y
      have hsu := extN_succ l p g hv y
      obtain ⟨R, hR⟩ := extN_split l p g hv (show y + 1 ≤ rowsN tb by omega)
      have hl2 := hlt2 y (by omega)
      rw [hcf y hyl] at hXy
      have spF := fit_spec ca colB.cells[y]
      generalize colB.cells[y] = cb at *
      cases hfit : fitC ca cb with
      | false =>
        rw [hfit] at spF
        rw [hfit, if_neg (by decide)] at hXy
        (refine gGo ?_; intros)
        refine rowAt_of (by simpa using hgy) ?_
        conv => whnf
        (refine gGo ?_; intros)
        (refine gPC (spF) ?_; conv => whnf)
        (refine gGo ?_; intros)
        refine ⟨_, _, ?_, ⟨y + 1, o, by omega, (by rw [ho, hsu, hXy, List.append_nil]), hol, rfl, rfl⟩, ⟨[(0, 0), (1, 1), (5, 5), (12, 12)], [], [], .mq (.ci 0 (.ci 1 (.ci 5 (.ci 12 .nil))))⟩⟩
        omega
      | true =>
        rw [hfit] at spF
        rw [hfit, if_pos rfl] at hXy
        have spI := ih (hv ++ [y]) o (by simp) (by rw [List.length_append, List.length_singleton]; omega) hl2 hol
        (refine gGo ?_; intros)
        refine rowAt_of (by simpa using hgy) ?_
        conv => whnf
        (refine gGo ?_; intros)
        (refine gPC (spF) ?_; conv => whnf)
        (refine gGo ?_; intros)
        have htd : List.drop (Int.toNat 0) (List.take ((natRows hv).length : Int).toNat (natRows hv)) = natRows hv := by
          rw [Int.toNat_natCast, List.take_length]; rfl
        rw [htd]
        refine ⟨⟨rowsSz_cons rfl rowsSz_nil, hnz, fun h => by cases h⟩, fitsN (n := (natRows hv).length + 1) (b := 8) (by omega) (by omega), Or.inr ⟨⟨rfl, List.length_append.symm, List.length_append.symm, ?_⟩, ?_⟩⟩
        · have := natRows_pure (hv ++ [y])
          rw [natRows_snoc] at this
          exact this
        conv => whnf
        rw [natRows_snoc] at spI
        by_cases hfl : o.length + (g (hv ++ [y])).length ≤ 4096
        · rw [decide_eq_true hfl, List.take_of_length_le (by rw [List.length_append]; exact hfl)] at spI
          (refine gGo ?_; intros)
          (refine gCA [(0, 0), (1, 1)] [] [] (spI) ?_; conv => whnf)
          (refine gGo ?_; intros)
          refine ⟨_, _, ?_, ⟨y + 1, o ++ g (hv ++ [y]), by omega, (by rw [ho, hsu, hXy, List.append_assoc]), (by rw [List.length_append]; exact hfl), rfl, rfl⟩, ⟨[(0, 0), (1, 1), (5, 5), (12, 12)], [], [], .mq (.ci 0 (.ci 1 (.ci 5 (.ci 12 .nil))))⟩⟩
          omega
        · have e1 : out ++ extN l p g hv (rowsN tb) = (o ++ g (hv ++ [y])) ++ R := by rw [hR, hsu, hXy, ho]; simp only [List.append_assoc]
          have e3 : out.length + (extN l p g hv (rowsN tb)).length = (o ++ g (hv ++ [y])).length + R.length := by rw [← List.length_append, e1, List.length_append]
          have e4 : (o ++ g (hv ++ [y])).length = o.length + (g (hv ++ [y])).length := List.length_append
          rw [decide_eq_false hfl] at spI
          rw [decide_eq_false (by omega), e1, take_more (by omega)]
          (refine gGo ?_; intros)
          (refine gCA [(0, 0), (1, 1)] [] [] (spI) ?_; conv => whnf)
          (refine gGo ?_; intros)
          (refine gM ?_; conv => whnf)
          exact retH rfl (.refl _) rfl rfl rfl ⟨rfl, rfl, rfl, rfl, trivial⟩
    · have hye : y = colB.cells.length := by omega
      have e1 : extN l p g hv y = extN l p g hv (rowsN tb) := by rw [hye, l2]
      rw [e1] at ho
      have e2 : out.length + (extN l p g hv (rowsN tb)).length = o.length := by rw [ho, List.length_append]
      rw [e2, decide_eq_true hol, ← ho, List.take_of_length_le hol]
      (refine gGo ?_; intros)
      (refine gM ?_; conv => whnf)
      exact retH rfl (.refl _) rfl rfl rfl ⟨rfl, rfl, rfl, rfl, trivial⟩
end Go.Sx.Sp
namespace Go.Sx.Sp
open Go Go.Sx Go.Proofs
attribute [local irreducible] GoodW famL
def rowsE (l : List Table) (p : Pth) : List (List Nat) × Int := if validE l p = 0 then (if (rowsL l p).length ≤ 4096 then (rowsL l p, 0) else ([], 3)) else ([], validE l p)
theorem rowsP_succ (l : List Table) (p : Pth) (n : Nat) : rowsOfP l p (n + 1) = rowsOfP l p n ++ ext l p p.steps.length [n] := range_flat _ _
theorem rowsP_split (l : List Table) (p : Pth) {y n : Nat} (h : y ≤ n) : ∃ R, rowsOfP l p n = rowsOfP l p y ++ R := by
  induction n with
  | zero => obtain rfl : y = 0 := by omega
            exact ⟨[], by simp⟩
  | succ n ih =>
    by_cases e : y = n + 1
    · subst e; exact ⟨[], by simp⟩
    · obtain ⟨R, hR⟩ := ih (by omega)
      exact ⟨R ++ ext l p p.steps.length [n], by rw [rowsP_succ, hR, List.append_assoc]⟩
set_option maxHeartbeats 16000000 in
theorem rows52_spec {l : List Table} {p : Pth} (h : validE l p = 0) : Spec Tryd.prog 52 [.sl (tblRows l) false, .agg p.row] [] (.tup [.sl (rowRows (if (rowsL l p).length ≤ 4096 then rowsL l p else [])) false, .bool (decide ((rowsL l p).length ≤ 4096))]) [] := by
  have h4 := (valid_path h).2.1
  have spT := tables31_spec l p (by omega)
  have spR := rows3_spec (tabN l p 0)
  have hg0 : (tblRows (tabsM l p))[0]? = some (tabN l p 0).row := by
    have := tabsM_get l p (i := 0) (by omega)
    unfold tblRows
    rw [List.getElem?_map, this]; rfl
  have htl := tblRows_len (tabsM l p)
  have hml := tabsM_len l p
  have spE := extend_spec h p.steps.length
  have hrow : rowsN (tabN l p 0) ≤ 4096 := (tabOf_rows (valid_path h).1 _).1
  have hRL : rowsL l p = rowsOfP l p (rowsN (tabN l p 0)) := rfl
  refine gEn env Tryd.func52 fun Γ hN hK hML => ?_
  (refine gGo ?_; intros)
  (refine gPC (spT) ?_; conv => whnf)
  (refine gGo ?_; intros)
  (refine gPC (spR) ?_; conv => whnf)
  (refine gGo ?_; intros)
  refine W.ownCell 7 0 0 90 1 rfl rfl rfl rfl rfl ?_
  refine W.leG (mp := [(3, 3), (7, 7), (90, 90)]) (bo := []) (st' := ⟨[(3, .bp 3 0), (6, .sl (tblRows (tabsM l p)) false), (7, .bp 7 0), (15, .int .i64 (rowsN (tabN l p 0))), (16, .int .i64 (0 : Nat))], [(3, [.rows 2 [p.row] none]), (7, [.rows 1 [[.osl 90 0 0 (rowRows []).length (rowRows []).length]] none]), (90, [.rows 1 (rowRows []) (some [])])], [3, 7, 90]⟩)
    (LeG.mq (.ci 3 (.ci 7 (.ci 90 .nil)))) ?_
  refine W.loopG (fun m st => ∃ (y : Nat) (o : List (List Nat)), y ≤ rowsN (tabN l p 0) ∧ o = rowsOfP l p y ∧ o.length ≤ 4096 ∧ m = rowsN (tabN l p 0) - y ∧ st = ⟨[(3, .bp 3 0), (6, .sl (tblRows (tabsM l p)) false), (7, .bp 7 0), (15, .int .i64 (rowsN (tabN l p 0))), (16, .int .i64 (y : Nat))], [(3, [.rows 2 [p.row] none]), (7, [.rows 1 [[.osl 90 0 0 (rowRows o).length (rowRows o).length]] none]), (90, [.rows 1 (rowRows o) (some [])])], [3, 7, 90]⟩)
    (rowsN (tabN l p 0)) _ ⟨0, [], by omega, rfl, by simp, by omega, rfl⟩ ⟨[(3, 3), (7, 7), (90, 90)], [], [], .mq (.ci 3 (.ci 7 (.ci 90 .nil)))⟩ ?_
  rintro m st ⟨y, o, hy, ho, hol, rfl, rfl⟩
  (refine gGo ?_; intros)
  refine boolRes_split (fun hb => ?_) (fun hb => ?_) <;> conv => whnf
  · have hyl : y < rowsN (tabN l p 0) := by omega
    have hsu := rowsP_succ l p y
    obtain ⟨R, hR⟩ := rowsP_split l p (show y + 1 ≤ rowsN (tabN l p 0) by omega)
    have spI := spE [y] o (by simp) (by rw [List.length_singleton]; omega) (fun i hi => by
      have e : i = 0 := (by rw [List.length_singleton] at hi; omega)
      subst e; exact hyl) hol
    by_cases hfl : o.length + (ext l p p.steps.length [y]).length ≤ 4096
    · rw [decide_eq_true hfl, List.take_of_length_le (by rw [List.length_append]; exact hfl)] at spI
      (refine gGo ?_; intros)
      (refine gCA [(0, 7), (1, 90)] [] [] (spI) ?_; conv => whnf)
      (refine gGo ?_; intros)
      refine ⟨_, _, ?_, ⟨y + 1, o ++ ext l p p.steps.length [y], by omega, (by rw [ho, hsu]), (by rw [List.length_append]; exact hfl), rfl, rfl⟩, ⟨[(3, 3), (7, 7), (90, 90)], [], [], .mq (.ci 3 (.ci 7 (.ci 90 .nil)))⟩⟩
      omega
    · have e1 : rowsL l p = (o ++ ext l p p.steps.length [y]) ++ R := by rw [hRL, hR, hsu, ho]
      have e4 : (o ++ ext l p p.steps.length [y]).length = o.length + (ext l p p.steps.length [y]).length := List.length_append
      have e5 : (rowsL l p).length = (o ++ ext l p p.steps.length [y]).length + R.length := by rw [e1, List.length_append]
      rw [decide_eq_false hfl] at spI
      rw [if_neg (by omega), decide_eq_false (by omega)]
      (refine gGo ?_; intros)
      (refine gCA [(0, 7), (1, 90)] [] [] (spI) ?_; conv => whnf)
      (refine gGo ?_; intros)
      (refine gM ?_; conv => whnf)
      exact ret0 rfl rfl rfl
  · have hye : y = rowsN (tabN l p 0) := by omega
    rw [hye, ← hRL] at ho
    rw [if_pos (by rw [← ho]; exact hol), decide_eq_true (by rw [← ho]; exact hol), ← ho]
    (refine gGo ?_; intros)
    refine W.leG (mp := []) (bo := [90]) (st' := ⟨[(4, .sl (rowRows o) false), (5, .bool true)], [], []⟩)
      (LeG.mk' rfl rfl rfl ⟨⟨_, Lent.whole rfl rfl rfl rfl (.inl rfl), rfl⟩, ⟨_, .refl _, rfl⟩, trivial⟩ .nil rfl rfl (by rw [hK]; rfl)) ?_
    (refine gM ?_; conv => whnf)
    exact ret0 rfl rfl rfl
set_option maxHeartbeats 8000000 in
theorem rows31_spec (l : List Table) (p : Pth) : Spec Tryd.prog 26 [.sl (tblRows l) false, .agg p.row] [] (.tup [.sl (rowRows (rowsE l p).1) false, .int .i64 (rowsE l p).2]) [] := by
  have spV := valid31_spec l p
  refine gEn env Tryd.func26 fun Γ hN hK hML => ?_
  by_cases h : validE l p = 0
  · have sp := rows52_spec h
    have he : rowsE l p = if (rowsL l p).length ≤ 4096 then (rowsL l p, 0) else ([], 3) := by unfold rowsE; rw [if_pos h]
    rw [h] at spV
    rw [he]
    by_cases hc : (rowsL l p).length ≤ 4096
    · rw [if_pos hc, decide_eq_true hc] at sp
      rw [if_pos hc]
      (refine gGo ?_; intros)
      (refine gPC (spV) ?_; conv => whnf)
      (refine gGo ?_; intros)
      (refine gPC (sp) ?_; conv => whnf)
      (refine gGr ?_; intros)
      exact ret0 rfl rfl rfl
    · rw [if_neg hc, decide_eq_false hc] at sp
      rw [if_neg hc]
      (refine gGo ?_; intros)
      (refine gPC (spV) ?_; conv => whnf)
      (refine gGo ?_; intros)
      (refine gPC (sp) ?_; conv => whnf)
      (refine gGr ?_; intros)
      exact ret0 rfl rfl rfl
  · have he : rowsE l p = ([], validE l p) := by unfold rowsE; rw [if_neg h]
    rw [he]
    (refine gGo ?_; intros)
    (refine gPC (spV) ?_; conv => whnf)
    (refine gGo ?_; intros)
    (refine gGr ?_; intros)
    exact ret0 rfl rfl rfl
end Go.Sx.Sp
namespace Go.Sx.Sp
open Go Go.Sx Go.Proofs
attribute [local irreducible] GoodW famL
def prodTo : Nat → (Nat → Int) → Int
  | 0, _ => 1
  | n + 1, f => prodTo n f * f n
theorem prodTo_congr {n : Nat} {f g : Nat → Int} (h : ∀ q, q < n → f q = g q) : prodTo n f = prodTo n g := by
  induction n with
  | zero => rfl
  | succ n ih =>
    simp only [prodTo]
    rw [ih fun q hq => h q (by omega), h n (by omega)]
theorem prodTo_mul (n : Nat) (f g : Nat → Int) : prodTo n (fun q => f q * g q) = prodTo n f * prodTo n g := by
  induction n with
  | zero => rfl
  | succ n ih =>
    simp only [prodTo, ih]
    generalize prodTo n f = a
    generalize prodTo n g = b
    rw [Int.mul_assoc, Int.mul_assoc, Int.mul_left_comm b]
theorem prodTo_one (n : Nat) : prodTo n (fun _ => 1) = 1 := by
  induction n with
  | zero => rfl
  | succ n ih => simp only [prodTo, ih, Int.mul_one]
theorem prodTo_at (n j : Nat) (c : Int) (h : j < n) : prodTo n (fun q => if q = j then c else 1) = c := by
  induction n with
  | zero => omega
  | succ n ih =>
    simp only [prodTo]
    by_cases e : j = n
    · subst e
      rw [prodTo_congr (g := fun _ => 1) (fun q hq => if_neg (by omega)), prodTo_one, if_pos rfl, Int.one_mul]
    · rw [ih (by omega), if_neg (fun h => e h.symm), Int.mul_one]
theorem prodTo_foldl (f : Nat → Int) (g : Nat → Bool) : ∀ m, (((List.range m).filter g).map (· + 1)).foldl (fun x k => x * f k) 1 = prodTo m (fun q => if g q = true then f (q + 1) else 1)
  | 0 => rfl
  | m + 1 => by
    have ih := prodTo_foldl f g m
    rw [List.range_succ, List.filter_append, List.map_append, List.foldl_append, ih]
    simp only [prodTo]
    cases hg : g m with
    | true => simp [hg]
    | false => simp [hg]
section
variable {l : List Table} {p : Pth}
theorem cntI_prod {i r : Nat} (hi : i ≤ p.steps.length) (hr : r < rowsN (tabN l p i)) : cntI l p i r = prodTo p.steps.length (fun q => if parI p q = i then fitS l p (q + 1) (cellT (tabN l p i) (frN l p (q + 1)) r) else 1) := by
  rw [cntI_eq hi hr]
  unfold kidsL
  rw [prodTo_foldl (fun k => fitS l p k (cellT (tabN l p i) (frN l p k) r)) (fun q => decide (parI p q = i))]
  exact prodTo_congr fun q _ => by simp
variable (l p) in
end
def facS (l : List Table) (p : Pth) (hv : List Nat) (q : Nat) : Int := fitS l p (q + 1) (cellT (tabN l p (parI p q)) (frN l p (q + 1)) (hv.getD (parI p q) 0))
def wgt (l : List Table) (p : Pth) (j : Nat) (hv : List Nat) : Int := prodTo p.steps.length (fun q => if j ≤ q ∧ parI p q ≤ j then facS l p hv q else 1)
section
variable {l : List Table} {p : Pth}
theorem wgt_end {hv : List Nat} : wgt l p p.steps.length hv = 1 := by
  unfold wgt
  rw [prodTo_congr (g := fun _ => 1) (fun q hq => if_neg (by omega)), prodTo_one]
theorem getD_app {hv : List Nat} {y i : Nat} (h : i < hv.length) : (hv ++ [y]).getD i 0 = hv.getD i 0 := by
  rw [List.getD_eq_getElem?_getD, List.getD_eq_getElem?_getD, List.getElem?_append_left h]
theorem getD_last {hv : List Nat} {y : Nat} : (hv ++ [y]).getD hv.length 0 = y := by
  rw [List.getD_eq_getElem?_getD, List.getElem?_append_right (Nat.le_refl _), Nat.sub_self]; rfl
theorem wgt_step {j : Nat} {hv : List Nat} (hj : j < p.steps.length) (hl : hv.length = j + 1) :
    wgt l p j hv = sumTo (rowsN (tabN l p (j + 1))) fun y => if stepFits l p j (hv.getD (parI p j) 0) y = true then wgt l p (j + 1) (hv ++ [y]) else 0 := by
  have hA : wgt l p j hv = facS l p hv j * prodTo p.steps.length (fun q => if j + 1 ≤ q ∧ parI p q ≤ j then facS l p hv q else 1) := by
    unfold wgt
    rw [← prodTo_at p.steps.length j (facS l p hv j) hj, ← prodTo_mul]
    refine prodTo_congr fun q hq => ?_
    have hp := parI_le p (i := q) (by omega)
    by_cases e : q = j
    · subst e
      rw [if_pos ⟨Nat.le_refl _, hp⟩, if_pos rfl, if_neg (by omega), Int.mul_one]
    · rw [if_neg e, Int.one_mul]
      by_cases h2 : j ≤ q ∧ parI p q ≤ j
      · rw [if_pos h2, if_pos ⟨by omega, h2.2⟩]
      · rw [if_neg h2, if_neg (fun h => h2 ⟨by omega, h.2⟩)]
  have hB : ∀ y, y < rowsN (tabN l p (j + 1)) → wgt l p (j + 1) (hv ++ [y]) = prodTo p.steps.length (fun q => if j + 1 ≤ q ∧ parI p q ≤ j then facS l p hv q else 1) * cntI l p (j + 1) y := fun y hy => by
    rw [cntI_prod (by omega) hy, ← prodTo_mul]
    unfold wgt
    refine prodTo_congr fun q hq => ?_
    have hp := parI_le p (i := q) (by omega)
    by_cases e : parI p q = j + 1
    · rw [if_pos ⟨by omega, by omega⟩, if_neg (by omega), if_pos e, Int.one_mul]
      unfold facS
      rw [e, show j + 1 = hv.length from hl.symm, getD_last]
    · rw [if_neg e, Int.mul_one]
      by_cases h2 : j + 1 ≤ q ∧ parI p q ≤ j
      · rw [if_pos ⟨h2.1, by omega⟩, if_pos h2]
        unfold facS
        rw [getD_app (by omega)]
      · rw [if_neg h2, if_neg (fun h => h2 ⟨h.1, by omega⟩)]
  rw [hA]
  generalize prodTo p.steps.length (fun q => if j + 1 ≤ q ∧ parI p q ≤ j then facS l p hv q else 1) = A at *
  unfold facS fitS
  rw [Int.mul_comm, ← sumTo_mul]
  refine sumTo_congr fun y hy => ?_
  rw [hB y hy]
  unfold stepFits
  split
  · rfl
  · exact Int.mul_zero _
theorem flat_len {α : Type} (f : Nat → List α) : ∀ n, (((List.range n).flatMap f).length : Int) = sumTo n fun y => ((f y).length : Int)
  | 0 => rfl
  | n + 1 => by
    rw [range_flat, List.length_append, Int.natCast_add, flat_len f n, sumTo_succ]
theorem ext_len : ∀ (k : Nat) (hv : List Nat), hv ≠ [] → hv.length + k = p.steps.length + 1 → ((ext l p k hv).length : Int) = wgt l p (hv.length - 1) hv
  | 0, hv, hne, hl => by
    rw [show hv.length - 1 = p.steps.length by omega, wgt_end]; rfl
  | k + 1, hv, hne, hl => by
    have hpos : 0 < hv.length := List.length_pos_iff.2 hne
    obtain ⟨j, hj⟩ : ∃ j, hv.length = j + 1 := ⟨hv.length - 1, by omega⟩
    rw [show hv.length - 1 = j by omega, wgt_step (by omega) hj]
    show ((extN l p (ext l p k) hv (rowsN (tabN l p hv.length))).length : Int) = _
    unfold extN
    rw [flat_len, hj]
    refine sumTo_congr fun y hy => ?_
    unfold extF
    rw [show hv.length - 1 = j by omega]
    split
    · rw [ext_len k (hv ++ [y]) (by simp) (by rw [List.length_append, List.length_singleton]; omega)]
      congr 1
      rw [List.length_append, List.length_singleton]; omega
    · rfl
theorem cnt_ext {r : Nat} (hr : r < rowsN (tabN l p 0)) : cntI l p 0 r = ((ext l p p.steps.length [r]).length : Int) := by
  rw [ext_len p.steps.length [r] (by simp) (by rw [List.length_singleton]; omega), cntI_prod (Nat.zero_le _) hr]
  unfold wgt
  refine prodTo_congr fun q hq => ?_
  show _ = if 0 ≤ q ∧ parI p q ≤ 0 then facS l p [r] q else 1
  by_cases e : parI p q = 0
  · rw [if_pos e, if_pos ⟨Nat.zero_le _, by omega⟩]
    unfold facS
    rw [e]; rfl
  · rw [if_neg e, if_neg (fun h => e (by omega))]
theorem rows_total : sumTo (rowsN (tabN l p 0)) (cntI l p 0) = ((rowsL l p).length : Int) := by
  unfold rowsL rowsOfP
  rw [flat_len]
  exact sumTo_congr fun r hr => cnt_ext hr
theorem ext_mem : ∀ (k : Nat) (hv x : List Nat), hv ≠ [] → hv.length + k = p.steps.length + 1 → CombK l p hv.length (fun i => hv.getD i 0) → x ∈ ext l p k hv → x.length = p.steps.length + 1 ∧ Comb l p (fun i => x.getD i 0) ∧ ∀ i, i < hv.length → x.getD i 0 = hv.getD i 0
  | 0, hv, x, hne, hl, hc, hx => by
    have hx : x = hv := List.mem_singleton.1 hx
    subst hx
    refine ⟨by omega, ?_, fun i _ => rfl⟩
    unfold Comb
    rw [show p.steps.length + 1 = x.length by omega]
    exact hc
  | k + 1, hv, x, hne, hl, hc, hx => by
    have hpos : 0 < hv.length := List.length_pos_iff.2 hne
    obtain ⟨j, hj⟩ : ∃ j, hv.length = j + 1 := ⟨hv.length - 1, by omega⟩
    change x ∈ extN l p (ext l p k) hv (rowsN (tabN l p hv.length)) at hx
    unfold extN at hx
    rw [List.mem_flatMap] at hx
    obtain ⟨y, hy, h1⟩ := hx
    have hy := List.mem_range.1 hy
    unfold extF at h1
    rw [show hv.length - 1 = j by omega] at h1
    split at h1
    · rename_i hf
      have hpar := parI_le p (i := j) (by omega)
      have hc2 : CombK l p (hv ++ [y]).length (fun i => (hv ++ [y]).getD i 0) := by
        rw [List.length_append, List.length_singleton]
        refine ⟨fun i hi => ?_, fun q hq => ?_⟩
        · by_cases e : i = hv.length
          · subst e; simp only [getD_last]; exact hy
          · simp only [getD_app (show i < hv.length by omega)]
            exact hc.lt i (by omega)
        · have hp := parI_le p (i := q) (by omega)
          by_cases e : q + 1 = hv.length
          · obtain rfl : q = j := by omega
            simp only [e, getD_last, getD_app (show parI p q < hv.length by omega)]
            exact hf
          · simp only [getD_app (show q + 1 < hv.length by omega), getD_app (show parI p q < hv.length by omega)]
            exact hc.fit q (by omega)
      obtain ⟨g1, g2, g3⟩ := ext_mem k (hv ++ [y]) x (by simp) (by rw [List.length_append, List.length_singleton]; omega) hc2 h1
      refine ⟨g1, g2, fun i hi => ?_⟩
      rw [g3 i (by rw [List.length_append]; omega), getD_app hi]
    · cases h1
theorem rowsL_mem {x : List Nat} (h : x ∈ rowsL l p) : x.length = p.steps.length + 1 ∧ Comb l p (fun i => x.getD i 0) := by
  unfold rowsL rowsOfP at h
  rw [List.mem_flatMap] at h
  obtain ⟨r, hr, h1⟩ := h
  have hr := List.mem_range.1 hr
  obtain ⟨g1, g2, _⟩ := ext_mem p.steps.length [r] x (by simp) (by rw [List.length_singleton]; omega) ⟨fun i hi => (by
    have e : i = 0 := (by rw [List.length_singleton] at hi; omega)
    subst e; exact hr), fun q hq => (by rw [List.length_singleton] at hq; omega)⟩ h1
  exact ⟨g1, g2⟩
theorem ext_has {r : Nat → Nat} (hr : Comb l p r) : ∀ (k j : Nat), j + 1 + k = p.steps.length + 1 → (List.range (p.steps.length + 1)).map r ∈ ext l p k ((List.range (j + 1)).map r)
  | 0, j, h => by
    rw [show j + 1 = p.steps.length + 1 by omega]
    exact List.mem_singleton.2 rfl
  | k + 1, j, h => by
    have ih := ext_has hr k (j + 1) (by omega)
    have hlen : ((List.range (j + 1)).map r).length = j + 1 := by simp
    have hgd : ∀ i, i < j + 1 → ((List.range (j + 1)).map r).getD i 0 = r i := fun i hi => by
      rw [List.getD_eq_getElem?_getD, List.getElem?_map, List.getElem?_range hi]; rfl
    have hpar := parI_le p (i := j) (by omega)
    show _ ∈ extN l p (ext l p k) ((List.range (j + 1)).map r) (rowsN (tabN l p ((List.range (j + 1)).map r).length))
    unfold extN
    rw [List.mem_flatMap]
    refine ⟨r (j + 1), List.mem_range.2 (by rw [hlen]; exact hr.lt _ (by omega)), ?_⟩
    unfold extF
    rw [hlen, Nat.add_sub_cancel, hgd _ (by omega), if_pos (hr.fit j (by omega))]
    rw [List.range_succ, List.map_append] at ih
    exact ih
theorem rowsL_has {r : Nat → Nat} (hr : Comb l p r) : (List.range (p.steps.length + 1)).map r ∈ rowsL l p := by
  unfold rowsL rowsOfP
  rw [List.mem_flatMap]
  exact ⟨r 0, List.mem_range.2 (hr.lt 0 (by omega)), ext_has hr p.steps.length 0 (by omega)⟩
end
end Go.Sx.Sp
namespace Go.Sx.Sp
open Go Go.Sx Go.Proofs
attribute [local irreducible] GoodW famL
def numE : Nat → List Int → List (Nat × V × V)
  | _, [] => []
  | k, t :: l => (k, .int .i64 t, .bool true) :: numE (k + 1) l
theorem numE_at (s : Int) : ∀ (T : List Int) (k : Nat), mapAt (.int .i64 s) (numE k T) = some ((ixI s T).map fun i => (i, k + i, .bool true))
  | [], k => rfl
  | u :: T, k => by
    by_cases h : s = u
    · subst h
      simp [numE, mapAt, eqKey, ixI]
    · have := numE_at s T (k + 1)
      simp only [numE, mapAt, eqKey, h, decide_false, this, ixI, if_false]
      cases ixI s T with
      | none => simp
      | some i =>
        simp only [Option.map_some]
        rw [show k + 1 + i = k + (i + 1) by omega]
        simp
theorem numE_len : ∀ (T : List Int) (k : Nat), (numE k T).length = T.length
  | [], _ => rfl
  | p :: T, k => by simp [numE, numE_len T]
theorem numE_snoc (s : Int) : ∀ (T : List Int) (k : Nat), numE k (T ++ [s]) = numE k T ++ [(k + T.length, .int .i64 s, .bool true)]
  | [], k => rfl
  | p :: T, k => by
    simp only [List.cons_append, numE, numE_snoc s T (k + 1), List.length_cons]
    rw [show k + 1 + T.length = k + (T.length + 1) by omega]
theorem numE_get : ∀ (T : List Int) (k j : Nat), (numE k T)[j]? = (T[j]?).map fun p => (k + j, .int .i64 p, .bool true)
  | [], k, j => by simp [numE]
  | p :: T, k, 0 => by simp [numE]
  | p :: T, k, j + 1 => by
    simp only [numE, List.getElem?_cons_succ]
    rw [numE_get T (k + 1) j, show k + 1 + j = k + (j + 1) by omega]
def addN (l : List Int) (s : Int) : List Int := match ixI s l with | some _ => l | none => l ++ [s]
theorem addN_mem {l : List Int} {s u : Int} : u ∈ addN l s ↔ u ∈ l ∨ u = s := by
  unfold addN
  cases h : ixI s l with
  | none => simp
  | some j =>
    have := List.mem_of_getElem? (ixI_at h)
    simp only
    exact ⟨.inl, fun h => h.elim id (fun e => e ▸ this)⟩
theorem addN_nodup {l : List Int} {s : Int} (h : l.Nodup) : (addN l s).Nodup := by
  unfold addN
  cases hx : ixI s l with
  | some j => exact h
  | none =>
    have := ixI_none.1 hx
    exact List.nodup_append.2 ⟨h, by simp, fun a ha b hb => by simp at hb; subst hb; exact fun e => this (e ▸ ha)⟩
theorem addN_len {l : List Int} {s : Int} : (addN l s).length ≤ l.length + 1 := by
  unfold addN; split <;> simp
theorem numE_add (l : List Int) (s : Int) : ∃ r, mapAt (.int .i64 s) (numE 0 l) = some r ∧
    (match r with
      | some (j, b, _) => (numE 0 l).set j (b, .int .i64 s, .bool true) = numE 0 (addN l s) ∧ (addN l s).length = l.length
      | none => numE 0 l ++ [(l.length, .int .i64 s, .bool true)] = numE 0 (addN l s) ∧ (addN l s).length = l.length + 1) := by
  refine ⟨_, numE_at s _ 0, ?_⟩
  unfold addN
  cases h : ixI s l with
  | none =>
    simp only [Option.map_none]
    refine ⟨?_, by simp⟩
    have := numE_snoc s l 0
    simp only [Nat.zero_add] at this
    exact this.symm
  | some j =>
    simp only [Option.map_some]
    refine ⟨?_, trivial⟩
    refine List.ext_getElem? fun i => ?_
    rw [List.getElem?_set]
    by_cases e : j = i
    · subst e
      have hj := ixI_at h
      have hlt := (List.getElem?_eq_some_iff.1 hj).1
      rw [if_pos rfl, if_pos (by rw [numE_len]; exact hlt), numE_get, hj]; rfl
    · rw [if_neg e]
def numsAt (k : Nat) (L : List (List Nat)) : List Int := L.foldl (fun S x => addN S (x.getD k 0 : Nat)) []
theorem numsAt_snoc (k : Nat) (L : List (List Nat)) (x : List Nat) : numsAt k (L ++ [x]) = addN (numsAt k L) (x.getD k 0 : Nat) := by
  unfold numsAt; rw [List.foldl_append]; rfl
theorem numsAt_ok (k : Nat) (L : List (List Nat)) : (numsAt k L).Nodup ∧ ∀ u, u ∈ numsAt k L ↔ ∃ x ∈ L, u = ((x.getD k 0 : Nat) : Int) := by
  have : ∀ (L : List (List Nat)) (S : List Int), S.Nodup → (L.foldl (fun S x => addN S (x.getD k 0 : Nat)) S).Nodup ∧ ∀ u, u ∈ L.foldl (fun S x => addN S (x.getD k 0 : Nat)) S ↔ u ∈ S ∨ ∃ x ∈ L, u = ((x.getD k 0 : Nat) : Int) := by
    intro L
    induction L with
    | nil => intro S h; exact ⟨h, fun u => by simp⟩
    | cons x L ih =>
      intro S h
      obtain ⟨h1, h2⟩ := ih (addN S (x.getD k 0 : Nat)) (addN_nodup h)
      refine ⟨h1, fun u => ?_⟩
      rw [List.foldl_cons, h2 u, addN_mem]
      simp only [List.mem_cons, exists_eq_or_imp, or_assoc]
  obtain ⟨h1, h2⟩ := this L [] List.nodup_nil
  refine ⟨h1, fun u => ?_⟩
  have := h2 u
  unfold numsAt
  rw [this]; simp
theorem numsAt_len (k : Nat) (L : List (List Nat)) : (numsAt k L).length ≤ L.length := by
  have : ∀ (L : List (List Nat)) (S : List Int), (L.foldl (fun S x => addN S (x.getD k 0 : Nat)) S).length ≤ S.length + L.length := by
    intro L
    induction L with
    | nil => intro S; simp
    | cons x L ih =>
      intro S
      have := ih (addN S (x.getD k 0 : Nat))
      have := addN_len (l := S) (s := (x.getD k 0 : Nat))
      rw [List.foldl_cons, List.length_cons]; omega
  have := this L []
  unfold numsAt
  simpa using this
theorem sum_count (n : Nat) (P : Nat → Bool) : sumTo n (fun y => if P y = true then 0 else 1) = n - ((List.range n).filter P).length := by
  induction n with
  | zero => rfl
  | succ n ih =>
    rw [sumTo_succ, ih, List.range_succ, List.filter_append, List.length_append]
    cases hp : P n with
    | true => simp [hp]; omega
    | false => simp [hp]; omega
theorem count_len {S : List Int} {n : Nat} {P : Nat → Bool} (h : S.Nodup) (hm : ∀ u, u ∈ S ↔ ∃ y, y < n ∧ P y = true ∧ u = (y : Int)) : S.length = ((List.range n).filter P).length := by
  have hp : S.Perm (((List.range n).filter P).map fun (y : Nat) => (y : Int)) := by
    have hn : (((List.range n).filter P).map fun (y : Nat) => (y : Int)).Nodup := by
      have h0 : ((List.range n).filter P).Nodup := List.nodup_range.filter _
      rw [List.nodup_iff_pairwise_ne] at *
      rw [List.pairwise_map]
      exact h0.imp fun h e => h (Int.ofNat.inj e)
    rw [List.perm_iff_count]
    intro a
    rw [h.count, hn.count]
    have : a ∈ S ↔ a ∈ ((List.range n).filter P).map fun (y : Nat) => (y : Int) := by
      rw [hm a]
      simp only [List.mem_map, List.mem_filter, List.mem_range]
      constructor
      · rintro ⟨y, h1, h2, h3⟩; exact ⟨y, ⟨h1, h2⟩, h3.symm⟩
      · rintro ⟨y, ⟨h1, h2⟩, h3⟩; exact ⟨y, h1, h2, h3.symm⟩
    by_cases e : a ∈ S
    · rw [if_pos e, if_pos (this.1 e)]
    · rw [if_neg e, if_neg (fun h => e (this.2 h))]
  have := hp.length_eq
  rwa [List.length_map] at this
section
variable {l : List Table} {p : Pth}
theorem unu_rows (h : validE l p = 0) {i : Nat} (hi : i ≤ p.steps.length) : unuN l p i = rowsN (tabN l p i) - (numsAt i (rowsL l p)).length := by
  unfold unuN
  rw [sum_count]
  obtain ⟨h1, h2⟩ := numsAt_ok i (rowsL l p)
  have := count_len (n := rowsN (tabN l p i)) (P := usedB l p i) h1 fun u => by
    rw [h2 u]
    constructor
    · rintro ⟨x, hx, rfl⟩
      obtain ⟨g1, g2⟩ := rowsL_mem hx
      exact ⟨_, g2.lt i (by omega), comb_used h g2 i hi, rfl⟩
    · rintro ⟨y, hy, hu, rfl⟩
      obtain ⟨r, g1, g2⟩ := used_comb h i hi y hy hu
      refine ⟨_, rowsL_has g1, ?_⟩
      rw [List.getD_eq_getElem?_getD, List.getElem?_map, List.getElem?_range (by omega)]
      simp [g2]
  rw [this]
def firstN (L : List (List Nat)) (r : Nat) : Int := ((L.filter fun x => decide (x.getD 0 0 = r)).length : Int)
theorem first_rows {r : Nat} (hr : r < rowsN (tabN l p 0)) : firstN (rowsL l p) r = cntI l p 0 r := by
  rw [cnt_ext hr]
  unfold firstN
  have hx : ∀ q, q < rowsN (tabN l p 0) → ∀ x ∈ ext l p p.steps.length [q], x.getD 0 0 = q := fun q hq x hx =>
    (ext_mem p.steps.length [q] x (by simp) (by rw [List.length_singleton]; omega) ⟨fun i hi => (by
      have e : i = 0 := (by rw [List.length_singleton] at hi; omega)
      subst e; exact hq), fun q hq => (by rw [List.length_singleton] at hq; omega)⟩ hx).2.2 0 (by simp)
  have : ∀ n, n ≤ rowsN (tabN l p 0) → (((List.range n).flatMap fun r => ext l p p.steps.length [r]).filter fun x => decide (x.getD 0 0 = r)) = if r < n then ext l p p.steps.length [r] else [] := by
    intro n
    induction n with
    | zero => intro _; rfl
    | succ n ih =>
      intro hn
      have ih := ih (by omega)
      rw [range_flat, List.filter_append, ih]
      by_cases e : r = n
      · subst e
        rw [if_neg (by omega), if_pos (by omega), List.nil_append, List.filter_eq_self.2]
        exact fun x hxm => decide_eq_true (hx r hr x hxm)
      · have h0 : (ext l p p.steps.length [n]).filter (fun x => decide (x.getD 0 0 = r)) = [] := by
          rw [List.filter_eq_nil_iff]
          intro x hxm
          have := hx n (by omega) x hxm
          simp only [decide_eq_true_eq]
          omega
        rw [h0, List.append_nil]
        by_cases h2 : r < n
        · rw [if_pos h2, if_pos (by omega)]
        · rw [if_neg h2, if_neg (by omega)]
  have h1 := this (rowsN (tabN l p 0)) (Nat.le_refl _)
  rw [if_pos hr] at h1
  unfold rowsL rowsOfP
  rw [h1]
end
set_option maxHeartbeats 4000000 in
theorem ints_spec (a b : List Int) : Spec Tryd.prog 28 [.sl (intRows .i64 a) false, .sl (intRows .i64 b) false] [] (.bool (decide (a = b))) [] := by
  have hla := intRows_len .i64 a
  have hlb := intRows_len .i64 b
  refine gEn env Tryd.func28 fun Γ hN hK hML => ?_
  by_cases e4 : a.length = b.length
  · (refine gGo ?_; intros)
    refine W.loopG (fun n st => ∃ k : Nat, k ≤ a.length ∧ a.take k = b.take k ∧ n = a.length - k ∧ st = ⟨[(1, .sl (intRows .i64 b) false), (12, .sl (intRows .i64 a) false), (13, .int .i64 (intRows .i64 a).length), (14, .int .i64 k)], [], []⟩)
      a.length _ ⟨0, by omega, rfl, by omega, rfl⟩ ⟨[], [], [], .mq .nil⟩ ?_
    rintro n st ⟨k, hk, htk, rfl, rfl⟩
    (refine gGo ?_; intros)
    refine boolRes_split (fun hb => ?_) (fun hb => ?_) <;> conv => whnf
    · have hlt : k < a.length := by omega
      have hlt2 : k < b.length := by omega
      have hg1 := intRows_get (k := .i64) hlt
      have hg2 := intRows_get (k := .i64) hlt2
      by_cases e5 : a[k] = b[k]
      · (refine gGo ?_; intros)
        refine rowAt_of (by simpa using hg1) ?_
        conv => whnf
        (refine gGo ?_; intros)
        refine rowAt_of (by simpa using hg2) ?_
        conv => whnf
        (refine gGo ?_; intros)
        refine ⟨_, _, ?_, ⟨k + 1, by omega, by rw [List.take_succ_eq_append_getElem hlt, List.take_succ_eq_append_getElem hlt2, htk, e5], rfl, rfl⟩, ⟨[], [], [], .mq .nil⟩⟩
        omega
      · have hne : ¬ (a = b) := fun h => by subst h; exact e5 rfl
        rw [decide_eq_false hne]
        (refine gGo ?_; intros)
        refine rowAt_of (by simpa using hg1) ?_
        conv => whnf
        (refine gGo ?_; intros)
        refine rowAt_of (by simpa using hg2) ?_
        conv => whnf
        (refine gGr ?_; intros)
        exact ret0 rfl rfl rfl
    · have hke : k = a.length := by omega
      have huu : a = b := by
        rw [hke, List.take_length, e4, List.take_length] at htk; exact htk
      rw [decide_eq_true huu]
      (refine gGr ?_; intros)
      exact ret0 rfl rfl rfl
  · rw [decide_eq_false (fun h => e4 (by rw [h]))]
    (refine gGr ?_; intros)
    exact ret0 rfl rfl rfl
end Go.Sx.Sp
namespace Go.Sx.Sp
open Go Go.Sx Go.Proofs
attribute [local irreducible] GoodW famL
theorem cnt_filter (s : Str) : ∀ (cs : List Cell) (T : List (Str × Int)), lookT (cs.foldl cntStep T) s = lookT T s + ((cs.filter fun x => !x.null && decide (x.text = s)).length : Int)
  | [], T => by simp
  | c :: cs, T => by
    rw [List.foldl_cons, cnt_filter s cs (cntStep T c)]
    unfold cntStep
    cases hn : c.null with
    | true => simp [hn]
    | false =>
      rw [if_neg (by decide), lookT_add]
      by_cases e : s = c.text
      · subst e
        simp [hn]; omega
      · have e' : ¬ c.text = s := fun h => e h.symm
        simp [hn, e, e']
theorem look_cntC (cs : List Cell) (s : Str) : lookT (cntC cs) s = ((cs.filter fun x => !x.null && decide (x.text = s)).length : Int) := by
  unfold cntC
  rw [cnt_filter]
  simp [lookT, keysT, ixS]
theorem sum_filter (P : Cell → Bool) (d : Cell) : ∀ (cs : List Cell), sumTo cs.length (fun y => if P (cs.getD y d) = true then 1 else 0) = ((cs.filter P).length : Int) := by
  intro cs
  have : ∀ n, n ≤ cs.length → sumTo n (fun y => if P (cs.getD y d) = true then 1 else 0) = (((cs.take n).filter P).length : Int) := by
    intro n
    induction n with
    | zero => intro _; rfl
    | succ n ih =>
      intro hn
      rw [sumTo_succ, ih (by omega), List.take_succ_eq_append_getElem (show n < cs.length by omega), List.filter_append, List.length_append]
      have e : cs.getD n d = cs[n] := by simp [show n < cs.length by omega]
      rw [e]
      cases hp : P cs[n] with
      | true => simp [hp]
      | false => simp [hp]
  have := this cs.length (Nat.le_refl _)
  rwa [List.take_length] at this
theorem agL_hit (T U : List (Str × Int)) (rows : Int) : ∀ (l : List Nat) (j : Nat), j ∈ l → hitI T U j = true → valI T j ≤ (agL T U rows l).most := by
  have mono : ∀ (l : List Nat) (a : Ag), a.most ≤ (l.foldl (agS T U) a).most := by
    intro l
    induction l with
    | nil => intro a; exact Int.le_refl _
    | cons j l ih =>
      intro a
      refine Int.le_trans ?_ (ih _)
      unfold agS
      split
      · simp only; omega
      · exact Int.le_refl _
  have : ∀ (l : List Nat) (a : Ag) (j : Nat), j ∈ l → hitI T U j = true → valI T j ≤ (l.foldl (agS T U) a).most := by
    intro l
    induction l with
    | nil => intro a j h; cases h
    | cons i l ih =>
      intro a j hj hh
      rcases List.mem_cons.1 hj with rfl | hj
      · refine Int.le_trans ?_ (mono l _)
        unfold agS
        rw [if_pos hh]
        simp only; omega
      · exact ih _ j hj hh
  exact fun l j => this l _ j
theorem most_look (T U : List (Str × Int)) (rows : Int) (hr : ∀ p ∈ T, 0 ≤ p.2 ∧ p.2 ≤ 1000000) (s : Str) (hU : 0 < lookT U s) : lookT T s ≤ (agM T U rows).most := by
  have h0 := (agL_bound T U rows hr (List.range T.length)).2.2.1
  unfold lookT
  cases hx : ixS s (keysT T) with
  | none => exact h0
  | some j =>
    have hj := ixS_lt hx
    have hk := ixS_some hx
    have hkey : (T.getD j ([], 0)).1 = s := by
      unfold keysT at hk
      rw [List.getElem?_map] at hk
      rw [List.getD_eq_getElem?_getD]
      cases hT : T[j]? with
      | none => rw [hT] at hk; cases hk
      | some q => rw [hT] at hk; exact Option.some.inj hk
    refine agL_hit T U rows (List.range T.length) j (List.mem_range.2 hj) ?_
    unfold hitI
    rw [hkey]
    exact decide_eq_true hU
section
variable {l : List Table} {p : Pth}
def mosts (l : List Table) (p : Pth) (q : Nat) : Int := mostB (relS l p q)
theorem upN_prod (l : List Table) (p : Pth) : ∀ j, upN l p j = prodTo j (mosts l p)
  | 0 => rfl
  | j + 1 => by simp only [upN, prodTo, upN_prod l p j]; rfl
theorem mosts_nonneg (l : List Table) (p : Pth) (q : Nat) : 0 ≤ mosts l p q := by
  obtain ⟨r0, r1, r2, r3, r4, r5, r6, r7, r8, r9, r10, h1, h2, h3⟩ := ofE_form (tabOf l (stpAt p q).ft) (stpAt p q).fc (tabOf l (stpAt p q).tt) (stpAt p q).tc
  have : mosts l p q = r8 := by unfold mosts mostB relS; rw [h1]; rfl
  omega
theorem fits_most (h : validE l p = 0) {q : Nat} (hq : q < p.steps.length) {x : Nat} (hx : x < rowsN (tabN l p (parI p q))) :
    sumTo (rowsN (tabN l p (q + 1))) (fun y => if stepFits l p q x y = true then 1 else 0) ≤ mosts l p q := by
  have hv := valid_path h
  have hsf := pathB_step hv.2.2 hq
  have ht1 : tabN l p (parI p q) = tabOf l (stpAt p q).ft := par_tab hq hsf.old p.steps.length
  have ht2 : tabN l p (q + 1) = tabOf l (stpAt p q).tt := rfl
  have hf1 : frN l p (q + 1) = (stpAt p q).fc.toNat := rfl
  have hf2 : ownN l p (q + 1) = (stpAt p q).tc.toNat := rfl
  have hfc := hsf.fc
  have htc := hsf.tc
  unfold mosts relS stepFits
  rw [ht1] at hx ⊢
  rw [ht2, hf1, hf2]
  have hva : validB (tabOf l (stpAt p q).ft) = true := by
    cases hf : findT l (stpAt p q).ft with
    | none => unfold tabOf at hfc; rw [hf] at hfc; simp [Table.zero] at hfc; omega
    | some t => unfold tabOf; rw [hf]; exact listB_valid hv.1 _ (findT_mem hf).1
  have hvb : validB (tabOf l (stpAt p q).tt) = true := by
    cases hf : findT l (stpAt p q).tt with
    | none => unfold tabOf at htc; rw [hf] at htc; simp [Table.zero] at htc; omega
    | some t => unfold tabOf; rw [hf]; exact listB_valid hv.1 _ (findT_mem hf).1
  generalize tabOf l (stpAt p q).ft = a at *
  generalize tabOf l (stpAt p q).tt = b at *
  obtain ⟨i, hi⟩ := Int.eq_ofNat_of_zero_le hfc.1
  obtain ⟨j, hj⟩ := Int.eq_ofNat_of_zero_le htc.1
  rw [hi] at hfc ⊢
  rw [hj] at htc ⊢
  rw [Int.toNat_natCast, Int.toNat_natCast]
  have hil : i < a.cols.length := by omega
  have hjl : j < b.cols.length := by omega
  have lA := (validB_rows hva).2 _ (List.getElem_mem hil)
  have lB := (validB_rows hvb).2 _ (List.getElem_mem hjl)
  have rB := (validB_rows hvb).1
  have hM : mostB (ofE a i b j).1 = (agM (cntC b.cols[j].cells) (cntC a.cols[i].cells) (rowsN b)).most := by
    unfold ofE
    rw [if_neg (by simp [hva, hvb]), if_neg (fun h => h ⟨by omega, by omega, by omega, by omega⟩)]
    simp [relL, mostB, hil, hjl]
  rw [hM]
  have hcA : ∀ y, cellT a i y = (a.cols[i].cells).getD y ⟨false, []⟩ := fun y => by unfold cellT; simp [hil]
  have hcB : ∀ y, cellT b j y = (b.cols[j].cells).getD y ⟨false, []⟩ := fun y => by unfold cellT; simp [hjl]
  have mB := cntC_mems b.cols[j].cells
  have hb0 := (agL_bound (cntC b.cols[j].cells) (cntC a.cols[i].cells) (rowsN b) (fun p hp => by have := mB.1 p hp; omega) (List.range (cntC b.cols[j].cells).length)).2.2.1
  have hml := most_look (cntC b.cols[j].cells) (cntC a.cols[i].cells) (rowsN b) (fun p hp => by have := mB.1 p hp; omega) (cellT a i x).text
  simp only [hcB]
  rw [← lB] at hb0 hml ⊢
  rw [sum_filter (fun c => fitC (cellT a i x) c)]
  cases hn : (cellT a i x).null with
  | true =>
    have : (b.cols[j].cells).filter (fun c => fitC (cellT a i x) c) = [] := by
      rw [List.filter_eq_nil_iff]
      intro c _
      unfold fitC
      rw [hn]; simp
    rw [this]
    show (0 : Int) ≤ (agM _ _ _).most
    exact hb0
  | false =>
    have e : (b.cols[j].cells).filter (fun c => fitC (cellT a i x) c) = (b.cols[j].cells).filter (fun c => !c.null && decide (c.text = (cellT a i x).text)) := by
      refine List.filter_congr fun c _ => ?_
      unfold fitC
      rw [hn, Bool.not_false, Bool.true_and]
      congr 1
      exact decide_eq_decide.2 eq_comm
    rw [e, ← look_cntC]
    refine hml ?_
    rw [look_cntC]
    have hxl : x < a.cols[i].cells.length := by omega
    have hm : cellT a i x ∈ (a.cols[i].cells).filter (fun c => !c.null && decide (c.text = (cellT a i x).text)) := by
      rw [List.mem_filter]
      refine ⟨?_, by rw [hn]; simp⟩
      rw [hcA]
      simp [hxl]
    have := List.length_pos_of_mem hm
    omega
theorem wgt_bound (h : validE l p = 0) : ∀ (k j : Nat) (hv : List Nat), hv.length = j + 1 → j + k = p.steps.length → (∀ i, i ≤ j → hv.getD i 0 < rowsN (tabN l p i)) → wgt l p j hv ≤ prodTo p.steps.length (fun q => if j ≤ q then mosts l p q else 1)
  | 0, j, hv, hl, hk, hlt => by
    rw [show j = p.steps.length by omega, wgt_end, prodTo_congr (g := fun _ => 1) (fun q hq => if_neg (by omega)), prodTo_one]
    exact Int.le_refl _
  | k + 1, j, hv, hl, hk, hlt => by
    have hpar := parI_le p (i := j) (by omega)
    have hU : prodTo p.steps.length (fun q => if j ≤ q then mosts l p q else 1) = mosts l p j * prodTo p.steps.length (fun q => if j + 1 ≤ q then mosts l p q else 1) := by
      rw [← prodTo_at p.steps.length j (mosts l p j) (by omega), ← prodTo_mul]
      refine prodTo_congr fun q hq => ?_
      by_cases e : q = j
      · subst e
        rw [if_pos (Nat.le_refl _), if_pos rfl, if_neg (by omega), Int.mul_one]
      · rw [if_neg e, Int.one_mul]
        by_cases h2 : j ≤ q
        · rw [if_pos h2, if_pos (by omega)]
        · rw [if_neg h2, if_neg (by omega)]
    have hU0 : 0 ≤ prodTo p.steps.length (fun q => if j + 1 ≤ q then mosts l p q else 1) := by
      have : ∀ n (f : Nat → Int), (∀ q, 0 ≤ f q) → 0 ≤ prodTo n f := by
        intro n f hf
        induction n with
        | zero => exact (show (0 : Int) ≤ 1 by decide)
        | succ n ih => exact Int.mul_nonneg ih (hf n)
      refine this _ _ fun q => ?_
      split
      · exact mosts_nonneg l p q
      · decide
    rw [wgt_step (by omega) hl, hU]
    have h1 := fits_most h (q := j) (by omega) (hlt (parI p j) hpar)
    have h2 : sumTo (rowsN (tabN l p (j + 1))) (fun y => if stepFits l p j (hv.getD (parI p j) 0) y = true then wgt l p (j + 1) (hv ++ [y]) else 0) ≤ sumTo (rowsN (tabN l p (j + 1))) (fun y => if stepFits l p j (hv.getD (parI p j) 0) y = true then prodTo p.steps.length (fun q => if j + 1 ≤ q then mosts l p q else 1) else 0) := by
      refine sumTo_le fun y hy => ?_
      split
      · refine wgt_bound h k (j + 1) (hv ++ [y]) (by rw [List.length_append, List.length_singleton, hl]) (by omega) fun i hi => ?_
        by_cases e : i = j + 1
        · subst e
          rw [show j + 1 = hv.length from hl.symm, getD_last, hl]
          exact hy
        · rw [getD_app (by omega)]
          exact hlt i (by omega)
      · exact Int.le_refl _
    refine Int.le_trans h2 ?_
    rw [sum_if _ (fun y => stepFits l p j (hv.getD (parI p j) 0) y), Int.mul_comm]
    exact Int.mul_le_mul_of_nonneg_right h1 hU0
theorem cnt_upper (h : validE l p = 0) {r : Nat} (hr : r < rowsN (tabN l p 0)) : cntI l p 0 r ≤ upN l p p.steps.length := by
  have h1 := wgt_bound h p.steps.length 0 [r] rfl (by omega) (fun i hi => by obtain rfl : i = 0 := (by omega); exact hr)
  rw [cnt_ext hr, ext_len p.steps.length [r] (by simp) (by rw [List.length_singleton]; omega), upN_prod]
  refine Int.le_trans h1 (Int.le_of_eq ?_)
  exact prodTo_congr fun q _ => if_pos (Nat.zero_le _)
theorem repL_most (un : List Int) (M : Int) (hM : 0 ≤ M) (cs : List Int) (h : ∀ x ∈ cs, x ≤ M) : (repL un cs).most ≤ M := by
  have : ∀ (cs : List Int) (r : Rep), r.most ≤ M → (∀ x ∈ cs, x ≤ M) → (cs.foldl repStep r).most ≤ M := by
    intro cs
    induction cs with
    | nil => intro r hr _; exact hr
    | cons c cs ih =>
      intro r hr hc
      refine ih _ ?_ fun x hx => hc x (by simp [hx])
      have := hc c (by simp)
      show max r.most c ≤ M
      omega
  exact this cs _ hM h
theorem most_upper (h : validE l p = 0) : (repE l p).1.most ≤ upN l p p.steps.length := by
  unfold repE
  rw [if_pos h, cntsN_eq]
  refine repL_most _ _ (upN_bound l p _).1 _ fun x hx => ?_
  obtain ⟨r, hr, rfl⟩ := List.mem_map.1 hx
  exact cnt_upper h (List.mem_range.1 hr)
end
end Go.Sx.Sp
namespace Go.Sx.Sp
open Go Go.Sx Go.Proofs
attribute [local irreducible] GoodW famL
theorem repL_with (un : List Int) (cs : List Int) : repL un cs = { repL [] cs with unused := un } := by
  have : ∀ (cs : List Int) (r r' : Rep), r = { r' with unused := r.unused } → cs.foldl repStep r = { cs.foldl repStep r' with unused := r.unused } := by
    intro cs
    induction cs with
    | nil => intro r r' h; exact h
    | cons c cs ih =>
      intro r r' h
      have := ih (repStep r c) (repStep r' c) (by
        rw [h]; rfl)
      rw [List.foldl_cons, List.foldl_cons, this]; rfl
  exact this cs ⟨0, 0, 0, un⟩ ⟨0, 0, 0, []⟩ rfl
def eachJ (R0 : Nat) (L : List (List Nat)) : List Int := (List.range R0).map (firstN L)
theorem eachJ_len (R0 : Nat) (L : List (List Nat)) : (eachJ R0 L).length = R0 := by simp [eachJ]
theorem firstN_snoc (L : List (List Nat)) (x : List Nat) (r : Nat) : firstN (L ++ [x]) r = firstN L r + (if x.getD 0 0 = r then 1 else 0) := by
  unfold firstN
  rw [List.filter_append, List.length_append, Int.natCast_add]
  congr 1
  rw [List.filter_cons, List.filter_nil]
  by_cases h : x.getD 0 0 = r
  · rw [if_pos (decide_eq_true h), if_pos h]; rfl
  · rw [if_neg (by rw [decide_eq_false h]; decide), if_neg h]; rfl
theorem eachJ_get {R0 : Nat} {L : List (List Nat)} {r : Nat} (h : r < R0) : (intRows .i64 (eachJ R0 L))[r]? = some [.int .i64 (firstN L r)] := by
  rw [intRows_get (by rw [eachJ_len]; exact h)]
  simp [eachJ]
theorem eachJ_set {R0 : Nat} {L : List (List Nat)} {x : List Nat} (h : x.getD 0 0 < R0) : (intRows .i64 (eachJ R0 L)).set (x.getD 0 0) [.int .i64 (firstN L (x.getD 0 0) + 1)] = intRows .i64 (eachJ R0 (L ++ [x])) := by
  refine List.ext_getElem? fun i => ?_
  rw [List.getElem?_set]
  by_cases e : x.getD 0 0 = i
  · rw [if_pos e, if_pos (by rw [intRows_len, eachJ_len]; exact h)]
    rw [eachJ_get (by omega), firstN_snoc, if_pos e, e]
  · rw [if_neg e]
    by_cases hi : i < R0
    · rw [eachJ_get hi, eachJ_get hi, firstN_snoc, if_neg e, Int.add_zero]
    · rw [List.getElem?_eq_none (by rw [intRows_len, eachJ_len]; omega), List.getElem?_eq_none (by rw [intRows_len, eachJ_len]; omega)]
theorem eachJ_zero (R0 : Nat) : List.replicate R0 [V.int .i64 0] = intRows .i64 (eachJ R0 []) := by
  refine List.ext_getElem (by simp [intRows_len, eachJ_len]) fun j h1 h2 => ?_
  simp [intRows, eachJ, firstN]
theorem firstN_bound (L : List (List Nat)) (r : Nat) : 0 ≤ firstN L r ∧ firstN L r ≤ L.length := by
  unfold firstN
  have := List.length_filter_le (fun x => decide (List.getD x 0 0 = r)) L
  omega
section
variable {l : List Table} {p : Pth}
theorem each_final : eachJ (rowsN (tabN l p 0)) (rowsL l p) = cntsN l p 0 := by
  rw [cntsN_eq]
  unfold eachJ
  exact List.map_congr_left fun r hr => first_rows (List.mem_range.1 hr)
theorem want_rep (h : validE l p = 0) : (repE l p).1 = ⟨((rowsL l p).length : Int), (repL [] (cntsN l p 0)).lost, (repL [] (cntsN l p 0)).most, (List.range p.steps.length).map fun q => (rowsN (tabN l p (q + 1)) : Int) - (numsAt (q + 1) (rowsL l p)).length⟩ := by
  have hr := rep_eq h
  have hu : (List.range p.steps.length).map (fun q => unuN l p (q + 1)) = (List.range p.steps.length).map fun q => (rowsN (tabN l p (q + 1)) : Int) - (numsAt (q + 1) (rowsL l p)).length :=
    List.map_congr_left fun q hq => unu_rows h (by have := List.mem_range.1 hq; omega)
  rw [rows_total, hu] at hr
  have hm : (repE l p).1 = { repL [] (cntsN l p 0) with unused := (repE l p).1.unused } := by
    unfold repE
    rw [if_pos h]
    simp only
    rw [repL_with, repL_with]
  have hl : (repE l p).1.lost = (repL [] (cntsN l p 0)).lost := by rw [hm]
  have hmo : (repE l p).1.most = (repL [] (cntsN l p 0)).most := by rw [hm]
  generalize (repE l p).1 = R at *
  obtain ⟨a, b, c, d⟩ := R
  obtain ⟨_, h1, _, h2⟩ := hr
  simp only at h1 h2 hl hmo
  rw [h1, h2, hl, hmo]
end
end Go.Sx.Sp
namespace Go.Sx.Sp
open Go Go.Sx Go.Proofs
attribute [local irreducible] GoodW famL
def wantU (l : List Table) (p : Pth) (k : Nat) : List Int := (List.range k).map fun q => (rowsN (tabN l p (q + 1)) : Int) - (numsAt (q + 1) (rowsL l p)).length
theorem wantU_succ (l : List Table) (p : Pth) (k : Nat) : wantU l p (k + 1) = wantU l p k ++ [(rowsN (tabN l p (k + 1)) : Int) - (numsAt (k + 1) (rowsL l p)).length] := by
  unfold wantU; rw [List.range_succ, List.map_append]; rfl
set_option maxHeartbeats 32000000 in
theorem joins_law (t : List Int) : Spec Tryd.prog 6 [.sl (intRows .i64 t) false] [] (.bool true) [] := by
  have hl := intRows_len .i64 t
  have spL := light_spec t
  have spA := awake32_spec
  refine gEn env Tryd.func6 fun Γ hN hK hML => ?_
  by_cases hll : t.length ≤ 500
  · rw [decide_eq_true hll] at spL
    obtain ⟨⟨j1, j2⟩, j3, j4⟩ := joined_ok (l := t) (most := 5) (p := 0) (by omega) (Nat.zero_le _)
    have spJ := joined_spec t 5 0 (by omega) (Nat.zero_le _)
    generalize (joinedF t 5 0).1 = L at *
    generalize (joinedF t 5 0).2 = q at *
    have j2 : L.length ≤ 5 := j2
    have hlist := listB_J j3 (by omega)
    have spP := path_spec t L q hlist (by omega) (by omega) j4
    generalize (pathF t L q).1 = p at *
    generalize (pathF t L q).2 = q2 at *
    have spR := rows31_spec L p
    have hLl := tblRows_len L
    have hsl := stpRows_len p.steps
    (refine gGo ?_; intros)
    (refine gPC (spL) ?_; conv => whnf)
    (refine gGo ?_; intros)
    (refine gCA [] [(5, 70)] [] (roll_spec t) ?_; conv => whnf)
    (refine gGo ?_; intros)
    (refine gCA [(0, 70)] [] [] (spJ) ?_; conv => whnf)
    (refine gGo ?_; intros)
    (refine gCA [(0, 70)] [] [] (spP) ?_; conv => whnf)
    (refine gGo ?_; intros)
    by_cases hgood : validE L p = 0 ∧ (rowsL L p).length ≤ 4096
    · obtain ⟨hv, hc⟩ := hgood
      have hE : rowsE L p = (rowsL L p, 0) := by unfold rowsE; rw [if_pos hv, if_pos hc]
      rw [hE] at spR
      dsimp only at spR
      have hp4 := (valid_path hv).2.1
      have spT := tables31_spec L p (by omega)
      have spR0 := rows3_spec (tabN L p 0)
      have hrow := (tabOf_rows (valid_path hv).1 p.start).1
      have hrow : rowsN (tabN L p 0) ≤ 4096 := hrow
      have hrl := rowRows_len (rowsL L p)
      have htl := tblRows_len (tabsM L p)
      have hml := tabsM_len L p
      (refine gPC (spR) ?_; conv => whnf)
      (refine gGo ?_; intros)
      (refine gPC (spT) ?_; conv => whnf)
      (refine gGo ?_; intros)
      (refine gPC (spR0) ?_; conv => whnf)
      (refine gGo ?_; intros)
      refine And.intro ⟨by omega, by omega, (by show ((rowsN (tabN L p 0) : Nat) : Int) * 8 ≤ _; omega), by omega⟩ ?_
      conv => whnf
      rw [Int.toNat_natCast]
      (refine gGo ?_; intros)
      have hR : ∀ x ∈ rowsL L p, x.length = p.steps.length + 1 ∧ Comb L p (fun i => x.getD i 0) := fun x hx => rowsL_mem hx
      have hef := each_final (l := L) (p := p)
      generalize hR0 : rowsN (tabN L p 0) = R0 at *
      refine W.leG (mp := [(5, 5), (9, 9), (56, 56)]) (bo := []) (st' := ⟨[(4, .sl (tblRows L) false), (5, .bp 5 0), (6, .sl (rowRows (rowsL L p)) false), (8, .sl (tblRows (tabsM L p)) false), (9, .bp 9 0), (10, .osl 56 0 0 R0 R0), (57, .sl (rowRows (rowsL L p)) false), (58, .int .i64 (rowRows (rowsL L p)).length), (59, .int .i64 0)], [(5, [.rows 2 [p.row] none]), (9, [.rows 4 [[.int .i64 (rowRows (rowsL L p)).length, .int .i64 (0), .int .i64 (0), .nils]] none]), (56, [.rows 1 (intRows .i64 (eachJ R0 [])) (some [])])], [5, 9, 56]⟩)
        (LeG.mq (.ci 5 (.ci 9 (.cons 56 rfl rfl (.refl _) (by rw [← eachJ_zero]; rfl) .nil)))) ?_
      refine W.loopG (fun m st => ∃ j : Nat, j ≤ (rowsL L p).length ∧ m = (rowsL L p).length - j ∧ st = ⟨[(4, .sl (tblRows L) false), (5, .bp 5 0), (6, .sl (rowRows (rowsL L p)) false), (8, .sl (tblRows (tabsM L p)) false), (9, .bp 9 0), (10, .osl 56 0 0 R0 R0), (57, .sl (rowRows (rowsL L p)) false), (58, .int .i64 (rowRows (rowsL L p)).length), (59, .int .i64 j)], [(5, [.rows 2 [p.row] none]), (9, [.rows 4 [[.int .i64 (rowRows (rowsL L p)).length, .int .i64 (0), .int .i64 (0), .nils]] none]), (56, [.rows 1 (intRows .i64 (eachJ R0 ((rowsL L p).take j))) (some [])])], [5, 9, 56]⟩)
        (rowsL L p).length _ ⟨0, by omega, by omega, rfl⟩ ⟨[(5, 5), (9, 9), (56, 56)], [], [], .mq (.ci 5 (.ci 9 (.ci 56 .nil)))⟩ ?_
      rintro m st ⟨j, hj, rfl, rfl⟩
      have heln := intRows_len .i64 (eachJ R0 ((rowsL L p).take j))
      rw [eachJ_len] at heln
      (refine gGo ?_; intros)
      refine boolRes_split (fun hb => ?_) (fun hb => ?_) <;> conv => whnf
      · have hjl : j < (rowsL L p).length := by omega
        have hgj := rowRows_get hjl
        obtain ⟨x1, x2⟩ := hR _ (List.getElem_mem hjl)
        have htk : (rowsL L p).take (j + 1) = (rowsL L p).take j ++ [(rowsL L p)[j]] := List.take_succ_eq_append_getElem hjl
        have hx0 := x2.lt 0 (by omega)
        rw [hR0] at hx0
        have hgx := natRows_get (l := (rowsL L p)[j]) (i := 0) (by omega)
        have hxe : (rowsL L p)[j][0]'(by omega) = (rowsL L p)[j].getD 0 0 := by
          rw [List.getD_eq_getElem?_getD, List.getElem?_eq_getElem]; rfl
        rw [hxe] at hgx
        clear hxe
        generalize (rowsL L p)[j] = x at *
        have hge := eachJ_get (L := (rowsL L p).take j) hx0
        have hse := eachJ_set (L := (rowsL L p).take j) hx0
        have hfb := firstN_bound ((rowsL L p).take j) (x.getD 0 0)
        rw [List.length_take] at hfb
        rw [← htk] at hse
        generalize x.getD 0 0 = x0 at *
        (refine gGo ?_; intros)
        refine rowAt_of (by simpa using hgj) ?_
        conv => whnf
        (refine gGo ?_; intros)
        refine rowAt_of (r := [.int .i64 (x0 : Int)]) hgx ?_
        conv => whnf
        (refine gGo ?_; intros)
        refine rowAt_of (r := [.int .i64 (firstN ((rowsL L p).take j) x0)]) (by rw [Nat.zero_add, Int.toNat_natCast]; exact hge) ?_
        conv => whnf
        (refine gGo ?_; intros)
        refine rowAt_of (r := [.int .i64 (firstN ((rowsL L p).take j) x0)]) (by rw [Nat.zero_add, Int.toNat_natCast]; exact hge) ?_
        conv => whnf
        (refine gGo ?_; intros)
        refine ⟨_, _, ?_, ⟨j + 1, by omega, rfl, rfl⟩, [(5, 5), (9, 9), (56, 56)], [], [], LeG.mq (.ci 5 (.ci 9 (.cons 56 rfl rfl (.refl _) ?_ .nil)))⟩
        · omega
        · rw [← hse, Nat.zero_add, Int.toNat_natCast]; rfl
      · have hje : j = (rowsL L p).length := by omega
        rw [hje, List.take_length, hef]
        have hcl := cntsN_len L p 0
        have hcl : (cntsN L p 0).length = R0 := hcl.trans hR0
        have hpb := plan_bound hv (Nat.zero_le _)
        have hrb := repL_bound [] 1125899906842624 (by decide) (cntsN L p 0) hpb
        have hcr := intRows_len .i64 (cntsN L p 0)
        have hwu : (repE L p).1 = ⟨((rowRows (rowsL L p)).length : Int), (repL [] (cntsN L p 0)).lost, (repL [] (cntsN L p 0)).most, wantU L p p.steps.length⟩ := by rw [want_rep hv, hrl]; rfl
        generalize hcs : cntsN L p 0 = cs at *
        (refine gGo ?_; intros)
        have hw56 : ∀ H : Nat → List Blk, H 56 = [.rows 1 (intRows .i64 cs) (some [])] → Lent H [56] (.osl 56 0 0 R0 R0) (.sl (intRows .i64 cs) false) := fun H hH => Lent.whole rfl hH (by omega) rfl (.inl rfl)
        refine W.leG (mp := [(5, 5), (9, 9)]) (bo := [56]) (st' := ⟨[(4, .sl (tblRows L) false), (5, .bp 5 0), (6, .sl (rowRows (rowsL L p)) false), (8, .sl (tblRows (tabsM L p)) false), (9, .bp 9 0), (10, .sl (intRows .i64 cs) false), (72, .sl (intRows .i64 cs) false), (73, .int .i64 R0), (74, .int .i64 0)], [(5, [.rows 2 [p.row] none]), (9, [.rows 4 [[.int .i64 (rowRows (rowsL L p)).length, .int .i64 ((repL [] (cs.take 0)).lost), .int .i64 ((repL [] (cs.take 0)).most), .nils]] none])], [5, 9]⟩)
          (LeG.mk' rfl rfl rfl ⟨⟨_, .refl _, rfl⟩, ⟨_, .refl _, rfl⟩, ⟨_, .refl _, rfl⟩, ⟨_, .refl _, rfl⟩, ⟨_, .refl _, rfl⟩, ⟨_, hw56 _ rfl, rfl⟩, ⟨_, hw56 _ rfl, rfl⟩, ⟨_, .refl _, rfl⟩, ⟨_, .refl _, rfl⟩, trivial⟩ (.ci 5 (.ci 9 .nil)) rfl rfl (by rw [hK]; rfl)) ?_
        clear hw56
        refine W.loopG (fun m st => ∃ k : Nat, k ≤ cs.length ∧ m = cs.length - k ∧ st = ⟨[(4, .sl (tblRows L) false), (5, .bp 5 0), (6, .sl (rowRows (rowsL L p)) false), (8, .sl (tblRows (tabsM L p)) false), (9, .bp 9 0), (10, .sl (intRows .i64 cs) false), (72, .sl (intRows .i64 cs) false), (73, .int .i64 R0), (74, .int .i64 k)], [(5, [.rows 2 [p.row] none]), (9, [.rows 4 [[.int .i64 (rowRows (rowsL L p)).length, .int .i64 ((repL [] (cs.take k)).lost), .int .i64 ((repL [] (cs.take k)).most), .nils]] none])], [5, 9]⟩)
          cs.length _ ⟨0, by omega, by omega, rfl⟩ ⟨[(5, 5), (9, 9)], [], [], .mq (.ci 5 (.ci 9 .nil))⟩ ?_
        rintro m st ⟨k, hk, rfl, rfl⟩
        have hb0 := hrb k hk
        (refine gGo ?_; intros)
        refine boolRes_split (fun hb => ?_) (fun hb => ?_) <;> conv => whnf
        · have hkl : k < cs.length := by omega
          have hg1 := intRows_get (k := .i64) hkl
          have hsn := repL_snoc [] hkl
          have hb1 := hrb (k + 1) (by omega)
          have hx := hpb cs[k] (List.getElem_mem hkl)
          generalize repL [] (cs.take k) = Rk at *
          generalize cs[k] = x at *
          unfold repStep at hsn
          rw [hsn] at hb1
          by_cases hx0 : x = 0
          · rw [if_pos hx0] at hsn hb1
            simp only at hb1
            (refine gGo ?_; intros)
            refine rowAt_of (by simpa using hg1) ?_
            conv => whnf
            (refine gGo ?_; intros)
            refine ⟨_, _, ?_, ⟨k + 1, by omega, rfl, rfl⟩, [(5, 5), (9, 9)], [], [], LeG.mq (.ci 5 (.cons 9 rfl rfl (.refl _) (by rw [hsn]; rfl) .nil))⟩
            omega
          · rw [if_neg hx0] at hsn hb1
            simp only at hb1
            (refine gGo ?_; intros)
            refine rowAt_of (by simpa using hg1) ?_
            conv => whnf
            (refine gGo ?_; intros)
            refine ⟨_, _, ?_, ⟨k + 1, by omega, rfl, rfl⟩, [(5, 5), (9, 9)], [], [], LeG.mq (.ci 5 (.cons 9 rfl rfl (.refl _) (by rw [hsn]; rfl) .nil))⟩
            omega
        · have hke : k = cs.length := by omega
          rw [hke, List.take_length] at hb0 ⊢
          generalize (repL [] cs).lost = lost at *
          generalize (repL [] cs).most = most at *
          obtain ⟨T1, hT1⟩ : ∃ T1, T1 = (tabsM L p).drop 1 := ⟨_, rfl⟩
          have hT1l : T1.length = p.steps.length := by rw [hT1, List.length_drop]; omega
          have hT1r := tblRows_len T1
          have hT1g : ∀ i, i < T1.length → T1[i]? = some (tabN L p (i + 1)) := fun i hi => by
            rw [hT1, List.getElem?_drop, Nat.add_comm 1 i]
            exact tabsM_get L p (by omega)
          have hdr : ((tblRows (tabsM L p)).take ((tblRows (tabsM L p)).length : Int).toNat).drop (1 : Int).toNat = tblRows T1 := by
            rw [Int.toNat_natCast, List.take_length, hT1]
            unfold tblRows
            rw [List.map_drop]; rfl
          (refine gGo ?_; intros)
          refine ⟨tblRows_sz _, ?_⟩
          conv => whnf
          rw [hdr]
          (refine gGo ?_; intros)
          refine W.ownCell 9 0 3 200 1 rfl rfl rfl rfl rfl ?_
          refine W.leG (mp := [(5, 5), (9, 9), (200, 200)]) (bo := []) (st' := ⟨[(4, .sl (tblRows L) false), (5, .bp 5 0), (6, .sl (rowRows (rowsL L p)) false), (8, .sl (tblRows (tabsM L p)) false), (9, .bp 9 0), (10, .sl (intRows .i64 cs) false), (91, .sl (tblRows T1) false), (92, .int .i64 (tblRows T1).length), (93, .int .i64 0)], [(5, [.rows 2 [p.row] none]), (9, [.rows 4 [[.int .i64 (rowRows (rowsL L p)).length, .int .i64 (lost), .int .i64 (most), .osl 200 0 0 (intRows .i64 (wantU L p 0)).length (intRows .i64 (wantU L p 0)).length]] none]), (200, [.rows 1 (intRows .i64 (wantU L p 0)) (some [])])], [5, 9, 200]⟩)
            (LeG.mq (.ci 5 (.ci 9 (.ci 200 .nil)))) ?_
          refine W.loopG (fun m st => ∃ i : Nat, i ≤ T1.length ∧ m = T1.length - i ∧ st = ⟨[(4, .sl (tblRows L) false), (5, .bp 5 0), (6, .sl (rowRows (rowsL L p)) false), (8, .sl (tblRows (tabsM L p)) false), (9, .bp 9 0), (10, .sl (intRows .i64 cs) false), (91, .sl (tblRows T1) false), (92, .int .i64 (tblRows T1).length), (93, .int .i64 i)], [(5, [.rows 2 [p.row] none]), (9, [.rows 4 [[.int .i64 (rowRows (rowsL L p)).length, .int .i64 (lost), .int .i64 (most), .osl 200 0 0 (intRows .i64 (wantU L p i)).length (intRows .i64 (wantU L p i)).length]] none]), (200, [.rows 1 (intRows .i64 (wantU L p i)) (some [])])], [5, 9, 200]⟩)
            T1.length _ ⟨0, by omega, by omega, rfl⟩ ⟨[(5, 5), (9, 9), (200, 200)], [], [], .mq (.ci 5 (.ci 9 (.ci 200 .nil)))⟩ ?_
          rintro m st ⟨i, hi, rfl, rfl⟩
          have hwl := intRows_len .i64 (wantU L p i)
          have hwl2 : (wantU L p i).length = i := by simp [wantU]
          (refine gGo ?_; intros)
          refine boolRes_split (fun hb => ?_) (fun hb => ?_) <;> conv => whnf
          · have hil : i < T1.length := by omega
            have hgi : (tblRows T1)[i]? = some (tabN L p (i + 1)).row := by
              unfold tblRows
              rw [List.getElem?_map, hT1g i hil]; rfl
            have spRi := rows3_spec (tabN L p (i + 1))
            have hri : rowsN (tabN L p (i + 1)) ≤ 4096 := (tabOf_rows (valid_path hv).1 (stpAt p i).tt).1
            have hws := wantU_succ L p i
            (refine gGo ?_; intros)
            refine rowAt_of (r := (tabN L p (i + 1)).row) (by simpa using hgi) ?_
            conv => whnf
            (refine gGo ?_; intros)
            refine W.loopG (fun m st => ∃ j : Nat, j ≤ (rowsL L p).length ∧ m = (rowsL L p).length - j ∧ st = ⟨[(4, .sl (tblRows L) false), (5, .bp 5 0), (6, .sl (rowRows (rowsL L p)) false), (8, .sl (tblRows (tabsM L p)) false), (9, .bp 9 0), (10, .sl (intRows .i64 cs) false), (91, .sl (tblRows T1) false), (92, .int .i64 (tblRows T1).length), (93, .int .i64 i), (15, .int .i64 i), (16, .bp 16 0), (17, .omap 98 0), (99, .sl (rowRows (rowsL L p)) false), (100, .int .i64 (rowRows (rowsL L p)).length), (101, .int .i64 j)], [(5, [.rows 2 [p.row] none]), (9, [.rows 4 [[.int .i64 (rowRows (rowsL L p)).length, .int .i64 (lost), .int .i64 (most), .osl 200 0 0 (intRows .i64 (wantU L p i)).length (intRows .i64 (wantU L p i)).length]] none]), (200, [.rows 1 (intRows .i64 (wantU L p i)) (some [])]), (16, [.rows 3 [(tabN L p (i + 1)).row] none]), (98, [.map (numE 0 (numsAt (i + 1) ((rowsL L p).take j))) (numsAt (i + 1) ((rowsL L p).take j)).length (some [])])], [5, 9, 200, 16, 98]⟩)
              (rowsL L p).length _ ⟨0, by omega, by omega, rfl⟩ ⟨[(5, 5), (9, 9), (200, 200), (16, 16), (98, 98)], [], [], .mq (.ci 5 (.ci 9 (.ci 200 (.ci 16 (.ci 98 .nil)))))⟩ ?_
            rintro m st ⟨j, hj, rfl, rfl⟩
            (refine gGo ?_; intros)
            refine boolRes_split (fun hb => ?_) (fun hb => ?_) <;> conv => whnf
            · have hjl : j < (rowsL L p).length := by omega
              have hgj := rowRows_get hjl
              obtain ⟨x1, x2⟩ := hR _ (List.getElem_mem hjl)
              have htk : numsAt (i + 1) ((rowsL L p).take (j + 1)) = addN (numsAt (i + 1) ((rowsL L p).take j)) (((rowsL L p)[j].getD (i + 1) 0 : Nat) : Int) := by
                rw [List.take_succ_eq_append_getElem hjl, numsAt_snoc]
              have hgx := natRows_get (l := (rowsL L p)[j]) (i := i + 1) (by omega)
              have hxe : (rowsL L p)[j][i + 1]'(by omega) = (rowsL L p)[j].getD (i + 1) 0 := by
                rw [List.getD_eq_getElem?_getD, List.getElem?_eq_getElem]; rfl
              rw [hxe] at hgx
              clear hxe x2
              generalize (rowsL L p)[j] = x at *
              generalize x.getD (i + 1) 0 = x0 at *
              have hSl := numsAt_len (i + 1) ((rowsL L p).take j)
              rw [List.length_take] at hSl
              generalize hS : numsAt (i + 1) ((rowsL L p).take j) = S at *
              obtain ⟨r1, hq1, hq2⟩ := numE_add S (x0 : Int)
              (refine gGo ?_; intros)
              refine rowAt_of (by simpa using hgj) ?_
              conv => whnf
              (refine gGo ?_; intros)
              refine rowAt_of (r := [.int .i64 (x0 : Int)]) (by rw [show ((i : Int) + 1).toNat = i + 1 by omega]; exact hgx) ?_
              conv => whnf
              (refine gGo ?_; intros)
              refine ⟨r1, hq1, ?_⟩
              cases r1 with
              | none =>
                conv => whnf
                (refine gGo ?_; intros)
                refine ⟨_, _, ?_, ⟨j + 1, by omega, rfl, rfl⟩, [(5, 5), (9, 9), (200, 200), (16, 16), (98, 98)], [], [], LeG.mq (.ci 5 (.ci 9 (.ci 200 (.ci 16 (.cons 98 rfl rfl (.refl _) (by rw [htk, ← hq2.1, hq2.2]; rfl) .nil)))))⟩
                omega
              | some pr =>
                obtain ⟨jj, bb, vv⟩ := pr
                conv => whnf
                (refine gGo ?_; intros)
                refine ⟨_, _, ?_, ⟨j + 1, by omega, rfl, rfl⟩, [(5, 5), (9, 9), (200, 200), (16, 16), (98, 98)], [], [], LeG.mq (.ci 5 (.ci 9 (.ci 200 (.ci 16 (.cons 98 rfl rfl (.refl _) (by rw [htk, ← hq2.1, hq2.2]; rfl) .nil)))))⟩
                omega
            · have hje : j = (rowsL L p).length := by omega
              rw [hje, List.take_length]
              have hSl := numsAt_len (i + 1) (rowsL L p)
              have hnl := numE_len (numsAt (i + 1) (rowsL L p)) 0
              (refine gGo ?_; intros)
              (refine gPC (spRi) ?_; conv => whnf)
              (refine gGo ?_; intros)
              refine ⟨⟨rowsSz_cons rfl rowsSz_nil, rfl⟩, fitsN (n := (intRows .i64 (wantU L p i)).length + 1) (b := 8) (by omega) (by omega), .inl ⟨rfl, rfl, ?_⟩⟩
              conv => whnf
              (refine gGo ?_; intros)
              refine ⟨_, _, ?_, ⟨i + 1, by omega, rfl, rfl⟩, [(5, 5), (9, 9), (200, 200)], [], [], ?_⟩
              · omega
              · rw [hws, intRows_snoc, List.length_append, ← hnl]
                exact LeG.mq (.ci 5 (.ci 9 (.ci 200 .nil)))
          · have hie : i = T1.length := by omega
            rw [hie, hT1l]
            have hre : repE L p = (Rep.mk ((rowRows (rowsL L p)).length : Int) lost most (wantU L p p.steps.length), 0) := by
              rw [← hwu, ← (rep_eq hv).1]
            have hmu := most_upper hv
            rw [hwu] at hmu
            have hmu : most ≤ upN L p p.steps.length := hmu
            have sp1 := report_spec L p
            rw [hre] at sp1
            have sp2 := pathEach_spec L p
            rw [show eachE L p = (cs, 0) by unfold eachE; rw [if_pos hv, hcs]] at sp2
            have sp3 := pathUpper_spec L p
            rw [show upperE L p = (upN L p p.steps.length, 0) by unfold upperE; rw [if_pos hv]] at sp3
            have sp4 := same_spec (Rep.mk ((rowRows (rowsL L p)).length : Int) lost most (wantU L p p.steps.length)) (Rep.mk ((rowRows (rowsL L p)).length : Int) lost most (wantU L p p.steps.length))
            rw [decide_eq_true rfl] at sp4
            have sp5 := ints_spec cs cs
            rw [decide_eq_true rfl] at sp5
            dsimp only at sp1 sp2 sp3
            generalize upN L p p.steps.length = up at *
            generalize wantU L p p.steps.length = wu at *
            refine W.leG (mp := [(5, 5), (9, 9)]) (bo := [200]) (st' := ⟨[(4, .sl (tblRows L) false), (5, .bp 5 0), (9, .bp 9 0), (10, .sl (intRows .i64 cs) false), (94, .bool false)], [(5, [.rows 2 [p.row] none]), (9, [.rows 4 [Rep.row ⟨((rowRows (rowsL L p)).length : Int), lost, most, wu⟩] none])], [5, 9]⟩)
              (LeG.mq (.ci 5 (.cons 9 (b1 := .rows 4 [Rep.row ⟨((rowRows (rowsL L p)).length : Int), lost, most, wu⟩] none) rfl rfl (.rows _ _ _ (by repeat' (first | exact trivial | exact ⟨Lent.refl _, rfl⟩ | exact ⟨Lent.norm _, rfl⟩ | exact ⟨Lent.whole rfl rfl (by first | rfl | exact List.length_append.symm | exact hlenR | simp) rfl (by first | exact .inl rfl | exact .inr rfl), rfl⟩ | apply And.intro))) rfl .nil))) ?_
            (refine gGo ?_; intros)
            (refine gPC (sp1) ?_; conv => whnf)
            (refine gGo ?_; intros)
            (refine gPC (sp2) ?_; conv => whnf)
            (refine gGo ?_; intros)
            (refine gPC (sp3) ?_; conv => whnf)
            (refine gGo ?_; intros)
            (refine gPC (sp4) ?_; conv => whnf)
            (refine gGo ?_; intros)
            (refine gPC (sp5) ?_; conv => whnf)
            (refine gGo ?_; intros)
            (refine gPC (spA) ?_; conv => whnf)
            (refine gGr ?_; intros)
            exact ret0 rfl rfl rfl
    · have hE : ¬ (rowsE L p).2 = 0 := by
        unfold rowsE
        by_cases h1 : validE L p = 0
        · rw [if_pos h1, if_neg (fun h2 => hgood ⟨h1, h2⟩)]; decide
        · rw [if_neg h1]; exact h1
      generalize (rowsE L p).2 = er at *
      generalize rowRows (rowsE L p).1 = rr at *
      (refine gPC (spR) ?_; conv => whnf)
      (refine gGo ?_; intros)
      (refine gPC (spA) ?_; conv => whnf)
      (refine gGr ?_; intros)
      exact ret0 rfl rfl rfl
  · rw [decide_eq_false hll] at spL
    (refine gGo ?_; intros)
    (refine gPC (spL) ?_; conv => whnf)
    (refine gGo ?_; intros)
    (refine gPC (spA) ?_; conv => whnf)
    (refine gGr ?_; intros)
    exact ret0 rfl rfl rfl
theorem joins_calls {w : World} {v0 : Value} {u0 : V} (r0 : VRel w (fun _ => False) (fun _ _ => none) u0 v0) (a0 : argShape T 2 22 u0) (hg : GRel w (fun _ => False)) :
    Calls Tryd.prog 6 #[v0] w fun e w' => e = .returned (.bool true) ∧ Go.RowKit.Below w.heap.size w w' := by
  obtain ⟨l, rfl⟩ := arg_ints a0
  refine Spec.law (joins_law l) (cargs := [v0]) rfl (fun j u c hj hc => ?_) rfl hg
  match j with
  | 0 => cases hj; cases hc; exact r0
  | j + 1 => cases hj
end Go.Sx.Sp
