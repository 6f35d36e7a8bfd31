/- All rows of a plan, and putting a row of cells. -/
import Derived.Test.YtjklpocgdppmdaaDoorJSeven
import Derived.Test.YtjklpocgdppmdaaDoorSxFour
set_option linter.unusedVariables false
set_option linter.unusedSimpArgs false
namespace Go.Sx.Sp
open Go Go.Sx Go.Proofs
attribute [local irreducible] GoodW famL
set_option maxHeartbeats 1000000 in
theorem cloneOI (rows : List (List V)) (hz : rowsSz rows 1) (hin : ∀ U : Nat → Bool, (rows.all fun r => r.all fun v => v.sites.all U) = true) (hlen : rows.length ≤ 4294967296) : Spec Tryd.prog 27 [.sl rows false] [] (.osl 5 0 0 rows.length rows.length) [(5, .rows 1 rows none)] := by
  have hfit : fitsV rows.length 8 := fitN hlen (by omega)
  refine gEn env Tryd.func27 fun Γ hN hK hML => ?_
  cases rows with
  | nil =>
    refine gA ?_
    (refine gE env hN (by kernel_rfl) ?_; conv => whnf)
    refine W.nilSplit (full := false) 0 (by rfl) ?_ ?_
    · (refine gGo ?_; intros)
      refine W.ownNil 2 5 1 rfl rfl ?_
      refine W.ref (Ref.unks 5 rfl) ?_
      (refine gM ?_; conv => whnf)
      exact retH rfl (.refl _) rfl rfl rfl ⟨rfl, rfl, trivial⟩
    · (refine gGl ?_; intros)
      refine Or.inl ?_
      conv => whnf
      (refine gGo ?_; intros)
      refine ⟨⟨trivial, rfl⟩, ⟨by decide, by decide⟩, .inl ⟨rfl, rfl, ?_⟩⟩
      conv => whnf
      (refine gGo ?_; intros)
      refine W.ref (Ref.unks 5 rfl) ?_
      (refine gM ?_; conv => whnf)
      exact retH rfl (.refl _) rfl rfl rfl ⟨rfl, rfl, trivial⟩
  | cons r rs =>
    (refine gGl ?_; intros)
    refine Or.inl ?_
    conv => whnf
    (refine gGo ?_; intros)
    refine ⟨⟨hz, rfl⟩, by simpa using hfit, .inl ⟨rfl, rfl, ?_⟩⟩
    simp only [Nat.zero_add, List.nil_append]
    conv => whnf
    (refine gGo ?_; intros)
    refine W.ref (Ref.unks 5 rfl) ?_
    (refine gM ?_; conv => whnf)
    exact retH rfl (.refl _) rfl rfl rfl ⟨rfl, hin _, trivial⟩
theorem natRows_flat (l : List Nat) : ((natRows l).all fun r => flatL r) = true := by
  unfold natRows
  rw [List.all_eq_true]
  intro r hr
  obtain ⟨c, _, rfl⟩ := List.mem_map.1 hr
  rfl
theorem natRows_in (l : List Nat) (U : Nat → Bool) : ((natRows l).all fun r => r.all fun v => v.sites.all U) = true := by
  unfold natRows
  rw [List.all_eq_true]
  intro r hr
  obtain ⟨c, _, rfl⟩ := List.mem_map.1 hr
  rfl
theorem natRows_pr (l : List Nat) (ks : Option (List Nat)) : pureRows (natRows l) ks := .inr (natRows_pure l)
theorem natRows_ren (l : List Nat) (ρ : Nat → Option Nat) : (natRows l).map (renL ρ) = natRows l := by
  unfold natRows
  rw [List.map_map]
  rfl
def bunN (l : List Table) (p : Pth) (i n : Nat) : Bun := bunS (fun y => !(cellT (tabN l p i) (ownN l p i) y).null && decide (0 < cntI l p i y)) (fun y => (cellT (tabN l p i) (ownN l p i) y).text) n
theorem bunN_look (l : List Table) (p : Pth) (i n : Nat) (s : Str) : lookB (bunN l p i n) s = byL l p i s n := by
  unfold bunN byL
  rw [bunS_look]
  refine List.filter_congr fun y _ => ?_
  unfold onB
  cases (cellT (tabN l p i) (ownN l p i) y).null <;> cases decide (0 < cntI l p i y) <;> simp
def byD (l : List Table) (p : Pth) (k : Nat) : List (List V) := (List.range (p.steps.length + 1)).map fun i => if 0 < i ∧ i < k then [.dmap (mkD (datE (bunN l p i (rowsN (tabN l p i)))))] else [.nilm]
theorem byD_len (l : List Table) (p : Pth) (k : Nat) : (byD l p k).length = p.steps.length + 1 := by simp [byD]
theorem byD_get {l : List Table} {p : Pth} {k i : Nat} (h0 : 0 < i) (hi : i < k) (hk : i ≤ p.steps.length) : (byD l p k)[i]? = some [.dmap (mkD (datE (bunN l p i (rowsN (tabN l p i)))))] := by
  unfold byD
  rw [List.getElem?_map, List.getElem?_range (by omega)]
  simp [h0, hi]
def visH (l : List Table) (p : Pth) (out : List (List Nat)) (row : List Nat) : List (Nat × Blk) :=
  [(90, .rows 1 [[.ro (planR l p) 0]] none), (91, .rows 1 [[.osl 95 0 0 (rowRows out).length (rowRows out).length]] none), (92, .rows 1 [[.osl 96 0 0 (natRows row).length (natRows row).length]] none), (93, .rows 1 [[.sl (byD l p (p.steps.length + 1)) false]] none), (94, .rows 1 [[.fn 26 [.bp 90 0, .bp 91 0, .bp 92 0, .bp 93 0, .bp 94 0]]] none), (95, .rows 1 (rowRows out) (some [])), (96, .rows 1 (natRows row) (some []))]
def restA (l : List Table) (p : Pth) : Nat → List Nat → List Nat → List Nat
  | 0, _, rest => rest
  | k + 1, hv, rest => (byL l p hv.length (parC l p hv hv.length).text (rowsN (tabN l p hv.length))).foldl (fun r y => y :: restA l p k (hv ++ [y]) r.tail) rest
theorem restA_len (l : List Table) (p : Pth) : ∀ (k : Nat) (hv rest : List Nat), rest.length = k → (restA l p k hv rest).length = k
  | 0, _, rest, h => h
  | k + 1, hv, rest, h => by
    unfold restA
    generalize byL l p hv.length (parC l p hv hv.length).text (rowsN (tabN l p hv.length)) = ys
    induction ys generalizing rest with
    | nil => exact h
    | cons y ys ih =>
      rw [List.foldl_cons]
      refine ih _ ?_
      rw [List.length_cons, restA_len l p k _ _ (by rw [List.length_tail]; omega)]
theorem rowRows_lent {H : Nat → List Blk} {bo : List Nat} {out : List (List Nat)} {row : List Nat} {q : Nat} {ks ks2 : Option (List Nat)} (hb : memB q bo = true) (hq : H q = [.rows 1 (natRows row) ks2]) (hp : pureRows (natRows row) ks2) : BLent H bo (.rows 1 (rowRows out ++ [[.osl q 0 0 (natRows row).length (natRows row).length]]) ks) (.rows 1 (rowRows (out ++ [row])) (some [])) := by
  refine .rowsF _ _ _ _ (by simp [rowRows]) fun i r1 hi => ?_
  rw [rowRows_snoc] at hi
  by_cases e : i < (rowRows out).length
  · rw [List.getElem?_append_left e] at hi
    refine ⟨r1, by rw [List.getElem?_append_left e]; exact hi, rfl, fun j v1 hj => ⟨v1, hj, .refl _, ?_⟩⟩
    unfold rowRows at hi
    rw [List.getElem?_map, Option.map_eq_some_iff] at hi
    obtain ⟨x, _, rfl⟩ := hi
    cases j with
    | zero => cases hj; exact ⟨rfl, rfl⟩
    | succ j => simp at hj
  · have e2 : i = (rowRows out).length := by
      have := (List.getElem?_eq_some_iff.1 hi).1
      rw [List.length_append, List.length_singleton] at this
      omega
    subst e2
    rw [List.getElem?_append_right (Nat.le_refl _), Nat.sub_self] at hi
    cases hi
    refine ⟨[.osl q 0 0 (natRows row).length (natRows row).length], by rw [List.getElem?_append_right (Nat.le_refl _), Nat.sub_self]; rfl, rfl, fun j v1 hj => ?_⟩
    cases j with
    | zero =>
      cases hj
      exact ⟨_, rfl, Lent.whole hb hq rfl rfl hp, rfl, rfl⟩
    | succ j => simp at hj
set_option maxHeartbeats 16000000 in
theorem visit_spec {l : List Table} {p : Pth} (h : validE l p = 0) : ∀ (k : Nat) (hv rest : List Nat) (out : List (List Nat)), hv ≠ [] → hv.length + k = p.steps.length + 1 → rest.length = k → CombK l p hv.length (fun i => hv.getD i 0) → (∀ i, i < hv.length → cntI l p i (hv.getD i 0) ≠ 0) → out.length + (visL l p k hv).length ≤ 4096 →
    Spec Tryd.prog 26 [.int .i64 (hv.length : Nat), .bp 90 0, .bp 91 0, .bp 92 0, .bp 93 0, .bp 94 0] (visH l p out (hv ++ rest)) (.tup []) (visH l p (out ++ visL l p k hv) (hv ++ restA l p k hv rest))
  | 0, hv, rest, out, hne, hlen, hrl, hc, hn, hout => by
    obtain rfl : rest = [] := List.length_eq_zero_iff.1 hrl
    have he : visL l p 0 hv = [hv] := rfl
    rw [he] at hout
    rw [he, show restA l p 0 hv [] = [] from rfl, List.append_nil]
    rw [List.length_singleton] at hout
    have hpl := plan_rows l p
    have hnl := natRows_len hv
    have hrr := rowRows_len out
    have h4 := (valid_path h).2.1
    have sp := cloneOI (natRows hv) (natRows_sz hv) (natRows_in hv) (by omega)
    have hnf := natRows_flat hv
    unfold visH
    refine gEn env Tryd.func26 fun Γ hN hK hML => ?_
    (refine gGo ?_; intros)
    (refine gGo ?_; intros)
    refine gCA [] [(5, 50)] [96] sp ?_ (hargs := by repeat' (first | exact trivial | exact Lent.whole rfl rfl rfl rfl (.inl rfl) | apply And.intro)) (ok := ⟨rfl, rfl, rfl, rfl, rfl, trivial, rfl, (by show (false || (true && ((natRows hv).all fun r => flatL r) && true)) = true; rw [hnf]; rfl)⟩)
    conv => whnf
    rw [natRows_ren, forceR_eq]
    conv => whnf
    (refine gGl ?_; intros)
    refine Or.inl ?_
    conv => whnf
    (refine gGo ?_; intros)
    refine ⟨⟨rfl, rfl⟩, fitsN (n := (rowRows out).length + 1) (b := 24) (by omega) (by omega), .inl ⟨rfl, rfl, ?_⟩⟩
    conv => whnf
    (refine gGo ?_; intros)
    refine W.leG (mp := [(90, 90), (91, 91), (92, 92), (93, 93), (94, 94), (95, 95), (96, 96)]) (bo := [50]) (st' := ⟨[], [(90, [.rows 1 [[.ro (planR l p) 0]] none]), (91, [.rows 1 [[.osl 95 0 0 (rowRows (out ++ [hv])).length (rowRows (out ++ [hv])).length]] none]), (92, [.rows 1 [[.osl 96 0 0 (natRows hv).length (natRows hv).length]] none]), (93, [.rows 1 [[.sl (byD l p (p.steps.length + 1)) false]] none]), (94, [.rows 1 [[.fn 26 [.bp 90 0, .bp 91 0, .bp 92 0, .bp 93 0, .bp 94 0]]] none]), (95, [.rows 1 (rowRows (out ++ [hv])) (some [])]), (96, [.rows 1 (natRows hv) (some [])])], [90, 91, 92, 93, 94, 95, 96]⟩)
      (LeG.mk' rfl rfl rfl trivial (.ci 90 (.cons 91 rfl rfl (.refl _) (by rw [rowRows_len, rowRows_len] at *; rw [List.length_append]; rfl) (.ci 92 (.ci 93 (.ci 94 (.cons 95 (b1 := .rows 1 (rowRows (out ++ [hv])) (some [])) rfl rfl (rowRows_lent rfl rfl (natRows_pr _ _)) rfl (.ci 96 .nil))))))) rfl rfl (by rw [hK]; rfl)) ?_
    (refine gM ?_; conv => whnf)
    exact retH rfl (.refl _) rfl rfl rfl ⟨rfl, rfl, rfl, rfl, rfl, rfl, rfl, rfl, rfl, rfl, rfl, rfl, rfl, rfl, trivial⟩
  | k + 1, hv, rest, out, hne, hlen, hrl, hc, hn, hout => by
    have ih := visit_spec h k
    have hpos : 0 < hv.length := List.length_pos_iff.2 hne
    obtain ⟨j, hj⟩ : ∃ j, hv.length = j + 1 := ⟨hv.length - 1, by omega⟩
    have hpl := plan_rows l p
    have h4 := (valid_path h).2.1
    have hpar := parI_le p (i := j) (by omega)
    have hsf := pathB_step (valid_path h).2.2 (show j < p.steps.length by omega)
    have hx1 := plan_row (l := l) (p := p) (i := hv.length) (by omega)
    have hx2 := plan_row (l := l) (p := p) (i := parI p j) (by omega)
    have hby := byD_get (l := l) (p := p) (k := p.steps.length + 1) (i := hv.length) hpos (by omega) (by omega)
    have hbl := byD_len l p (p.steps.length + 1)
    have hfr : frN l p (j + 1) < (tabN l p (parI p j)).cols.length := by
      have ht1 := par_tab (l := l) (show j < p.steps.length by omega) hsf.old p.steps.length
      have := hsf.fc
      show (stpAt p j).fc.toNat < _
      rw [show tabN l p (parI p j) = tabOf l (stpAt p j).ft from ht1]
      omega
    have hpn := hn (parI p j) (by omega)
    have hpl2 := hc.lt (parI p j) (by omega)
    have hrow : (natRows (hv ++ rest))[parI p j]? = some [.int .i64 ((hv.getD (parI p j) 0 : Nat) : Int)] := by
      have h1 : parI p j < hv.length := by omega
      unfold natRows
      rw [List.getElem?_map, List.getElem?_append_left h1, List.getD_eq_getElem?_getD, List.getElem?_eq_getElem h1]; rfl
    have hnl := natRows_len (hv ++ rest)
    have hrl2 : (hv ++ rest).length = p.steps.length + 1 := by rw [List.length_append]; omega
    have spC := column_spec (tabN l p (parI p j)) (frN l p (j + 1)) hfr
    have hvr := (validB_rows (tabN_ok h (i := parI p j) (by omega))).2 _ (List.getElem_mem hfr)
    have hcg := cellRows_get (l := ((tabN l p (parI p j)).cols[frN l p (j + 1)]).cells) (i := hv.getD (parI p j) 0) (by omega)
    have hce : ((tabN l p (parI p j)).cols[frN l p (j + 1)]).cells[hv.getD (parI p j) 0]'(by omega) = parC l p hv hv.length := by
      unfold parC cellT
      rw [hj, Nat.add_sub_cancel]
      have hlt : hv.getD (parI p j) 0 < ((tabN l p (parI p j)).cols[frN l p (j + 1)]).cells.length := by omega
      rw [List.getD_eq_getElem?_getD (l := (tabN l p (parI p j)).cols), List.getElem?_eq_getElem hfr]
      simp only [Option.getD_some]
      rw [List.getD_eq_getElem?_getD (l := ((tabN l p (parI p j)).cols[frN l p (j + 1)]).cells), List.getElem?_eq_getElem hlt]
      rfl
    rw [hce] at hcg
    clear hce
    have hcl := cellRows_len ((tabN l p (parI p j)).cols[frN l p (j + 1)]).cells
    generalize ((tabN l p (parI p j)).cols[frN l p (j + 1)]).cells = cells at *
    have hdl := datE_look (bunN l p hv.length (rowsN (tabN l p hv.length))) (parC l p hv hv.length).text
    have hlb := bunN_look l p hv.length (rowsN (tabN l p hv.length)) (parC l p hv hv.length).text
    have hvis : visL l p (k + 1) hv = (byL l p hv.length (parC l p hv hv.length).text (rowsN (tabN l p hv.length))).flatMap fun y => visL l p k (hv ++ [y]) := rfl
    have hres : restA l p (k + 1) hv rest = (byL l p hv.length (parC l p hv hv.length).text (rowsN (tabN l p hv.length))).foldl (fun r y => y :: restA l p k (hv ++ [y]) r.tail) rest := rfl
    rw [hvis] at hout ⊢
    rw [hres]
    have hmem : ∀ y ∈ byL l p hv.length (parC l p hv hv.length).text (rowsN (tabN l p hv.length)), y < rowsN (tabN l p hv.length) ∧ stepFits l p j (hv.getD (parI p j) 0) y = true ∧ cntI l p hv.length y ≠ 0 := fun y hy => by
      unfold byL at hy
      rw [List.mem_filter, List.mem_range] at hy
      obtain ⟨hy1, ho⟩ := hy
      have hnn : (parC l p hv hv.length).null = false := by
        cases hb : (parC l p hv hv.length).null with
        | false => rfl
        | true =>
          exfalso
          have h1 := (cntI_ne (by omega) hpl2).1 hpn j (by omega) rfl
          refine h1 (fitS_null ?_)
          have h2 := hb
          unfold parC at h2
          rw [show hv.length - 1 = j by omega, hj] at h2
          exact h2
      unfold onB at ho
      simp only [Bool.and_eq_true, Bool.not_eq_true', decide_eq_true_eq] at ho
      refine ⟨hy1, ?_, by omega⟩
      have hst : stepFits l p j (hv.getD (parI p j) 0) y = fitC (parC l p hv hv.length) (cellT (tabN l p hv.length) (ownN l p hv.length) y) := by
        unfold stepFits parC
        rw [show hv.length - 1 = j by omega, hj]
      rw [hst]
      unfold fitC
      rw [hnn, ho.1, ho.2.1]
      simp
    rw [hlb] at hdl
    generalize byL l p hv.length (parC l p hv hv.length).text (rowsN (tabN l p hv.length)) = ys at *
    obtain ⟨r, hr1, hr2⟩ := hdl
    unfold visH
    have hpos2 : (nodeAt l p p.steps.length hv.length).par = ((parI p j : Nat) : Int) ∧ (nodeAt l p p.steps.length hv.length).fr = frN l p (j + 1) ∧ (nodeAt l p p.steps.length (parI p j)).t = tabN l p (parI p j) := by
      rw [hj]; exact ⟨rfl, rfl, rfl⟩
    obtain ⟨q1, q2, q3⟩ := hpos2
    generalize nodeAt l p p.steps.length hv.length = nd at *
    unfold Nod.rowW at hx1 hx2
    rw [q1, q2] at hx1
    rw [q3] at hx2
    refine gEn env Tryd.func26 fun Γ hN hK hML => ?_
    (refine gGo ?_; intros)
    refine rowAt_of (by simpa using hx1) ?_
    conv => whnf
    (refine gGo ?_; intros)
    refine rowAt_of (by simpa using hby) ?_
    conv => whnf
    (refine gGo ?_; intros)
    refine rowAt_of (by simpa using hx2) ?_
    conv => whnf
    (refine gGo ?_; intros)
    (refine ⟨_, _, _, callG [] [] [] rfl rfl rfl (by kernel_rfl) (spC) (by refine ⟨Lent.row ?_, Lent.refl _, trivial⟩; repeat' (first | exact trivial | exact ⟨Lent.refl _, rfl⟩ | exact ⟨Lent.dead _, rfl⟩ | apply And.intro)) rfl ⟨rfl, rfl, rfl, rfl, rfl, by repeat' (first | exact trivial | rfl | apply And.intro), rfl, rfl⟩, ?_⟩; conv => whnf)
    (refine gGo ?_; intros)
    refine rowAt_of (by simpa using hrow) ?_
    conv => whnf
    (refine gGo ?_; intros)
    refine rowAt_of (by simpa using hcg) ?_
    conv => whnf
    (refine gGo ?_; intros)
    refine zok_intro (by kernel_rfl) ?_
    conv => whnf
    refine ⟨_, rfl, _, hr1, ?_⟩
    obtain ⟨O, hO⟩ : ∃ O : Nat → List (List Nat), O = fun q => out ++ (ys.take q).flatMap fun y => visL l p k (hv ++ [y]) := ⟨_, rfl⟩
    obtain ⟨R, hR⟩ : ∃ R : Nat → List Nat, R = fun q => (ys.take q).foldl (fun r y => y :: restA l p k (hv ++ [y]) r.tail) rest := ⟨_, rfl⟩
    have hO0 : O 0 = out := by rw [hO]; simp
    have hR0 : R 0 = rest := by rw [hR]; rfl
    have hOs : ∀ (q : Nat) (hq : q < ys.length), O (q + 1) = O q ++ visL l p k (hv ++ [ys[q]]) := fun q hq => by
      rw [hO]; simp only [List.take_succ_eq_append_getElem hq, List.flatMap_append, List.append_assoc]; simp
    have hRs : ∀ (q : Nat) (hq : q < ys.length), R (q + 1) = ys[q] :: restA l p k (hv ++ [ys[q]]) (R q).tail := fun q hq => by
      rw [hR]; simp only [List.take_succ_eq_append_getElem hq, List.foldl_append, List.foldl_cons, List.foldl_nil]
    have hOe : O ys.length = out ++ ys.flatMap fun y => visL l p k (hv ++ [y]) := by rw [hO]; simp
    have hRe : R ys.length = ys.foldl (fun r y => y :: restA l p k (hv ++ [y]) r.tail) rest := by rw [hR]; simp
    have hRl : ∀ q, q ≤ ys.length → (R q).length = k + 1 := fun q => by
      induction q with
      | zero => intro _; rw [hR0]; exact hrl
      | succ q ih2 =>
        intro hq
        rw [hRs q (by omega), List.length_cons, restA_len l p k _ _ (by rw [List.length_tail, ih2 (by omega)]; rfl)]
    have hOl : ∀ q, q ≤ ys.length → (O q).length ≤ 4096 := fun q hq => by
      rw [hO]
      simp only
      have h1 : ys.flatMap (fun y => visL l p k (hv ++ [y])) = (ys.take q).flatMap (fun y => visL l p k (hv ++ [y])) ++ (ys.drop q).flatMap fun y => visL l p k (hv ++ [y]) := by
        rw [← List.flatMap_append, List.take_append_drop]
      rw [h1, List.length_append] at hout
      rw [List.length_append]; omega
    rw [← hOe, ← hRe]
    rw [show out = O 0 from hO0.symm, show rest = R 0 from hR0.symm] at *
    have hyl := natRows_len ys
    clear hO hR hO0 hR0 hOe hRe hvis hres
    rcases hr2 with ⟨hix, rfl⟩ | ⟨jj, hix, rfl⟩
    · have hys : ys = [] := by rw [← hlb]; exact lookB_none hix
      have hy0 : ys.length ≤ 5 := by rw [hys]; decide
      conv => whnf
      (refine gGo ?_; intros)
      refine W.leG (mp := [(90, 90), (91, 91), (92, 92), (93, 93), (94, 94), (95, 95), (96, 96)]) (bo := []) (st' := ⟨[(0, .int .i64 (hv.length : Nat)), (1, .bp 90 0), (2, .bp 91 0), (3, .bp 92 0), (4, .bp 93 0), (5, .bp 94 0), (52, .sl (natRows ys) false), (53, .int .i64 (natRows ys).length), (54, .int .i64 (0 : Nat))], [(90, [.rows 1 [[.ro (planR l p) 0]] none]), (91, [.rows 1 [[.osl 95 0 0 (rowRows (O 0)).length (rowRows (O 0)).length]] none]), (92, [.rows 1 [[.osl 96 0 0 (natRows (hv ++ R 0)).length (natRows (hv ++ R 0)).length]] none]), (93, [.rows 1 [[.sl (byD l p (p.steps.length + 1)) false]] none]), (94, [.rows 1 [[.fn 26 [.bp 90 0, .bp 91 0, .bp 92 0, .bp 93 0, .bp 94 0]]] none]), (95, [.rows 1 (rowRows (O 0)) (some [])]), (96, [.rows 1 (natRows (hv ++ R 0)) (some [])])], [90, 91, 92, 93, 94, 95, 96]⟩)
        (LeG.mk' rfl rfl rfl (by rw [hys]; exact ⟨⟨_, .refl _, rfl⟩, ⟨_, .refl _, rfl⟩, ⟨_, .refl _, rfl⟩, ⟨_, .refl _, rfl⟩, ⟨_, .refl _, rfl⟩, ⟨_, .refl _, rfl⟩, ⟨_, .norm _, rfl⟩, ⟨_, .refl _, rfl⟩, ⟨_, .refl _, rfl⟩, trivial⟩) (.ci 90 (.ci 91 (.ci 92 (.ci 93 (.ci 94 (.ci 95 (.ci 96 .nil))))))) rfl rfl (by rw [hK]; rfl)) ?_
      refine W.loopG (fun m st => ∃ q : Nat, q ≤ ys.length ∧ m = ys.length - q ∧ st = ⟨[(0, .int .i64 (hv.length : Nat)), (1, .bp 90 0), (2, .bp 91 0), (3, .bp 92 0), (4, .bp 93 0), (5, .bp 94 0), (52, .sl (natRows ys) false), (53, .int .i64 (natRows ys).length), (54, .int .i64 q)], [(90, [.rows 1 [[.ro (planR l p) 0]] none]), (91, [.rows 1 [[.osl 95 0 0 (rowRows (O q)).length (rowRows (O q)).length]] none]), (92, [.rows 1 [[.osl 96 0 0 (natRows (hv ++ R q)).length (natRows (hv ++ R q)).length]] none]), (93, [.rows 1 [[.sl (byD l p (p.steps.length + 1)) false]] none]), (94, [.rows 1 [[.fn 26 [.bp 90 0, .bp 91 0, .bp 92 0, .bp 93 0, .bp 94 0]]] none]), (95, [.rows 1 (rowRows (O q)) (some [])]), (96, [.rows 1 (natRows (hv ++ R q)) (some [])])], [90, 91, 92, 93, 94, 95, 96]⟩)
        ys.length _ ⟨0, by omega, by omega, rfl⟩ ⟨[(90, 90), (91, 91), (92, 92), (93, 93), (94, 94), (95, 95), (96, 96)], [], [], .mq (.ci 90 (.ci 91 (.ci 92 (.ci 93 (.ci 94 (.ci 95 (.ci 96 .nil)))))))⟩ ?_
      rintro m st ⟨q, hq, rfl, rfl⟩
      have hrow2 := natRows_len (hv ++ R q)
      have hRq := hRl q hq
      have hrl3 : (hv ++ R q).length = p.steps.length + 1 := by rw [List.length_append]; omega
      (refine gGo ?_; intros)
      refine boolRes_split (fun hb => ?_) (fun hb => ?_) <;> conv => whnf
      · have hlt : q < ys.length := by omega
        have hyg := natRows_get hlt
        have hym := hmem _ (List.getElem_mem hlt)
        have hos := hOs q hlt
        have hrs := hRs q hlt
        have hol := hOl q hq
        have hol1 := hOl (q + 1) (by omega)
        rw [hos, List.length_append] at hol1
        have hset : (natRows (hv ++ R q)).set hv.length [.int .i64 ((ys[q] : Nat) : Int)] = natRows ((hv ++ [ys[q]]) ++ (R q).tail) := by
          cases hRc : R q with
          | nil => rw [hRc] at hRq; simp at hRq
          | cons z zs => simp [natRows]
        obtain ⟨z, hgi⟩ : ∃ z : Int, (natRows (hv ++ R q))[hv.length]? = some [.int .i64 z] := by
          have h1 : hv.length < (hv ++ R q).length := by omega
          exact ⟨_, natRows_get h1⟩
        have hsp := ih (hv ++ [ys[q]]) (R q).tail (O q) (by simp) (by rw [List.length_append, List.length_singleton]; omega) (by rw [List.length_tail]; omega) (combK_snoc hj (by omega) hc hym.1 hym.2.1) (fun i hi => by
          by_cases e : i = hv.length
          · subst e; rw [getD_last]; exact hym.2.2
          · have hi2 : i < hv.length := by rw [List.length_append, List.length_singleton] at hi; omega
            rw [getD_app hi2]; exact hn i hi2) hol1
        have hcast : (((hv ++ [ys[q]]).length : Nat) : Int) = (hv.length : Int) + 1 := by rw [List.length_append]; rfl
        rw [hcast] at hsp
        rw [← hos, show (hv ++ [ys[q]]) ++ restA l p k (hv ++ [ys[q]]) (R q).tail = hv ++ R (q + 1) by rw [hrs]; simp] at hsp
        have hnl3 := natRows_len ((hv ++ [ys[q]]) ++ (R q).tail)
        have hrl4 : ((hv ++ [ys[q]]) ++ (R q).tail).length = p.steps.length + 1 := by rw [List.length_append, List.length_append, List.length_tail, List.length_singleton]; omega
        have hnl4 := natRows_len (hv ++ R (q + 1))
        have hrl5 : (hv ++ R (q + 1)).length = p.steps.length + 1 := by rw [List.length_append, hRl (q + 1) (by omega)]; omega
        have hle : (natRows ((hv ++ [ys[q]]) ++ (R q).tail)).length = (natRows (hv ++ R q)).length := by omega
        unfold visH at hsp
        generalize hrw : (hv ++ [ys[q]]) ++ (R q).tail = row1 at *
        generalize ys[q] = y at *
        (refine gGo ?_; intros)
        refine rowAt_of (by simpa using hyg) ?_
        conv => whnf
        (refine gGs ?_; intros)
        refine gA ?_
        (refine gE env hN (by kernel_rfl) ?_; conv => whnf)
        (refine gGs ?_; intros)
        refine rowAt_of (by simpa using hgi) ?_
        conv => whnf
        (refine gGs ?_; intros)
        refine W.leG (mp := [(90, 90), (91, 91), (92, 92), (93, 93), (94, 94), (95, 95), (96, 96)]) (bo := []) (st' := ⟨[(0, .int .i64 (hv.length : Nat)), (1, .bp 90 0), (2, .bp 91 0), (3, .bp 92 0), (4, .bp 93 0), (5, .bp 94 0), (52, .sl (natRows ys) false), (53, .int .i64 (natRows ys).length), (54, .int .i64 q)], [(90, [.rows 1 [[.ro (planR l p) 0]] none]), (91, [.rows 1 [[.osl 95 0 0 (rowRows (O q)).length (rowRows (O q)).length]] none]), (92, [.rows 1 [[.osl 96 0 0 (natRows row1).length (natRows row1).length]] none]), (93, [.rows 1 [[.sl (byD l p (p.steps.length + 1)) false]] none]), (94, [.rows 1 [[.fn 26 [.bp 90 0, .bp 91 0, .bp 92 0, .bp 93 0, .bp 94 0]]] none]), (95, [.rows 1 (rowRows (O q)) (some [])]), (96, [.rows 1 (natRows row1) (some [])])], [90, 91, 92, 93, 94, 95, 96]⟩)
          (LeG.mq (.ci 90 (.ci 91 (.cons 92 rfl rfl (.refl _) (by rw [hle]; rfl) (.ci 93 (.ci 94 (.ci 95 (.cons 96 rfl rfl (.refl _) (by rw [← hset, show (0 + ((hv.length : Nat) : Int).toNat) = hv.length by simp]; rfl) .nil)))))))) ?_
        (refine gGo ?_; intros)
        (refine gCA [(90, 90), (91, 91), (92, 92), (93, 93), (94, 94), (95, 95), (96, 96)] [] [] (hsp) ?_; conv => whnf)
        (refine gGo ?_; intros)
        refine ⟨_, _, ?_, ⟨q + 1, by omega, rfl, rfl⟩, [(90, 90), (91, 91), (92, 92), (93, 93), (94, 94), (95, 95), (96, 96)], [], [], .mq (.ci 90 (.ci 91 (.ci 92 (.ci 93 (.ci 94 (.ci 95 (.ci 96 .nil))))))) ⟩
        omega
      · have hqe : q = ys.length := by omega
        rw [hqe]
        (refine gGo ?_; intros)
        exact retHn rfl (.refl _) rfl rfl rfl ⟨rfl, rfl, rfl, rfl, rfl, rfl, rfl, rfl, rfl, rfl, rfl, rfl, rfl, rfl, trivial⟩
    · conv => whnf
      (refine gGo ?_; intros)
      refine W.loopG (fun m st => ∃ q : Nat, q ≤ ys.length ∧ m = ys.length - q ∧ st = ⟨[(0, .int .i64 (hv.length : Nat)), (1, .bp 90 0), (2, .bp 91 0), (3, .bp 92 0), (4, .bp 93 0), (5, .bp 94 0), (52, .sl (natRows ys) false), (53, .int .i64 (natRows ys).length), (54, .int .i64 q)], [(90, [.rows 1 [[.ro (planR l p) 0]] none]), (91, [.rows 1 [[.osl 95 0 0 (rowRows (O q)).length (rowRows (O q)).length]] none]), (92, [.rows 1 [[.osl 96 0 0 (natRows (hv ++ R q)).length (natRows (hv ++ R q)).length]] none]), (93, [.rows 1 [[.sl (byD l p (p.steps.length + 1)) false]] none]), (94, [.rows 1 [[.fn 26 [.bp 90 0, .bp 91 0, .bp 92 0, .bp 93 0, .bp 94 0]]] none]), (95, [.rows 1 (rowRows (O q)) (some [])]), (96, [.rows 1 (natRows (hv ++ R q)) (some [])])], [90, 91, 92, 93, 94, 95, 96]⟩)
        ys.length _ ⟨0, by omega, by omega, rfl⟩ ⟨[(90, 90), (91, 91), (92, 92), (93, 93), (94, 94), (95, 95), (96, 96)], [], [], .mq (.ci 90 (.ci 91 (.ci 92 (.ci 93 (.ci 94 (.ci 95 (.ci 96 .nil)))))))⟩ ?_
      rintro m st ⟨q, hq, rfl, rfl⟩
      have hrow2 := natRows_len (hv ++ R q)
      have hRq := hRl q hq
      have hrl3 : (hv ++ R q).length = p.steps.length + 1 := by rw [List.length_append]; omega
      (refine gGo ?_; intros)
      refine boolRes_split (fun hb => ?_) (fun hb => ?_) <;> conv => whnf
      · have hlt : q < ys.length := by omega
        have hyg := natRows_get hlt
        have hym := hmem _ (List.getElem_mem hlt)
        have hos := hOs q hlt
        have hrs := hRs q hlt
        have hol := hOl q hq
        have hol1 := hOl (q + 1) (by omega)
        rw [hos, List.length_append] at hol1
        have hset : (natRows (hv ++ R q)).set hv.length [.int .i64 ((ys[q] : Nat) : Int)] = natRows ((hv ++ [ys[q]]) ++ (R q).tail) := by
          cases hRc : R q with
          | nil => rw [hRc] at hRq; simp at hRq
          | cons z zs => simp [natRows]
        obtain ⟨z, hgi⟩ : ∃ z : Int, (natRows (hv ++ R q))[hv.length]? = some [.int .i64 z] := by
          have h1 : hv.length < (hv ++ R q).length := by omega
          exact ⟨_, natRows_get h1⟩
        have hsp := ih (hv ++ [ys[q]]) (R q).tail (O q) (by simp) (by rw [List.length_append, List.length_singleton]; omega) (by rw [List.length_tail]; omega) (combK_snoc hj (by omega) hc hym.1 hym.2.1) (fun i hi => by
          by_cases e : i = hv.length
          · subst e; rw [getD_last]; exact hym.2.2
          · have hi2 : i < hv.length := by rw [List.length_append, List.length_singleton] at hi; omega
            rw [getD_app hi2]; exact hn i hi2) hol1
        have hcast : (((hv ++ [ys[q]]).length : Nat) : Int) = (hv.length : Int) + 1 := by rw [List.length_append]; rfl
        rw [hcast] at hsp
        rw [← hos, show (hv ++ [ys[q]]) ++ restA l p k (hv ++ [ys[q]]) (R q).tail = hv ++ R (q + 1) by rw [hrs]; simp] at hsp
        have hnl3 := natRows_len ((hv ++ [ys[q]]) ++ (R q).tail)
        have hrl4 : ((hv ++ [ys[q]]) ++ (R q).tail).length = p.steps.length + 1 := by rw [List.length_append, List.length_append, List.length_tail, List.length_singleton]; omega
        have hnl4 := natRows_len (hv ++ R (q + 1))
        have hrl5 : (hv ++ R (q + 1)).length = p.steps.length + 1 := by rw [List.length_append, hRl (q + 1) (by omega)]; omega
        have hle : (natRows ((hv ++ [ys[q]]) ++ (R q).tail)).length = (natRows (hv ++ R q)).length := by omega
        unfold visH at hsp
        generalize hrw : (hv ++ [ys[q]]) ++ (R q).tail = row1 at *
        generalize ys[q] = y at *
        (refine gGo ?_; intros)
        refine rowAt_of (by simpa using hyg) ?_
        conv => whnf
        (refine gGs ?_; intros)
        refine gA ?_
        (refine gE env hN (by kernel_rfl) ?_; conv => whnf)
        (refine gGs ?_; intros)
        refine rowAt_of (by simpa using hgi) ?_
        conv => whnf
        (refine gGs ?_; intros)
        refine W.leG (mp := [(90, 90), (91, 91), (92, 92), (93, 93), (94, 94), (95, 95), (96, 96)]) (bo := []) (st' := ⟨[(0, .int .i64 (hv.length : Nat)), (1, .bp 90 0), (2, .bp 91 0), (3, .bp 92 0), (4, .bp 93 0), (5, .bp 94 0), (52, .sl (natRows ys) false), (53, .int .i64 (natRows ys).length), (54, .int .i64 q)], [(90, [.rows 1 [[.ro (planR l p) 0]] none]), (91, [.rows 1 [[.osl 95 0 0 (rowRows (O q)).length (rowRows (O q)).length]] none]), (92, [.rows 1 [[.osl 96 0 0 (natRows row1).length (natRows row1).length]] none]), (93, [.rows 1 [[.sl (byD l p (p.steps.length + 1)) false]] none]), (94, [.rows 1 [[.fn 26 [.bp 90 0, .bp 91 0, .bp 92 0, .bp 93 0, .bp 94 0]]] none]), (95, [.rows 1 (rowRows (O q)) (some [])]), (96, [.rows 1 (natRows row1) (some [])])], [90, 91, 92, 93, 94, 95, 96]⟩)
          (LeG.mq (.ci 90 (.ci 91 (.cons 92 rfl rfl (.refl _) (by rw [hle]; rfl) (.ci 93 (.ci 94 (.ci 95 (.cons 96 rfl rfl (.refl _) (by rw [← hset, show (0 + ((hv.length : Nat) : Int).toNat) = hv.length by simp]; rfl) .nil)))))))) ?_
        (refine gGo ?_; intros)
        (refine gCA [(90, 90), (91, 91), (92, 92), (93, 93), (94, 94), (95, 95), (96, 96)] [] [] (hsp) ?_; conv => whnf)
        (refine gGo ?_; intros)
        refine ⟨_, _, ?_, ⟨q + 1, by omega, rfl, rfl⟩, [(90, 90), (91, 91), (92, 92), (93, 93), (94, 94), (95, 95), (96, 96)], [], [], .mq (.ci 90 (.ci 91 (.ci 92 (.ci 93 (.ci 94 (.ci 95 (.ci 96 .nil))))))) ⟩
        omega
      · have hqe : q = ys.length := by omega
        rw [hqe]
        (refine gGo ?_; intros)
        exact retHn rfl (.refl _) rfl rfl rfl ⟨rfl, rfl, rfl, rfl, rfl, rfl, rfl, rfl, rfl, rfl, rfl, rfl, rfl, rfl, trivial⟩
end Go.Sx.Sp
namespace Go.Sx.Sp
open Go Go.Sx Go.Proofs
attribute [local irreducible] GoodW famL
def colW (q : Nat) (c : Column) : List V := [.str c.name, .osl 902 q 0 c.cells.length c.cells.length]
def colWs (cols : List Column) : List (List V) := cols.mapIdx colW
theorem colWs_len (cols : List Column) : (colWs cols).length = cols.length := by simp [colWs]
theorem colWs_get {cols : List Column} {i : Nat} (h : i < cols.length) : (colWs cols)[i]? = some (colW i cols[i]) := by simp [colWs, h]
def colF (cols : List Column) (i : Nat) : Blk := .rows 2 (cellRows (match cols[i]? with | some c => c.cells | none => [])) (some [])
theorem colF_fam (cols : List Column) (n : Nat) : ∀ b ∈ famL n (colF cols), b.famB = true := famL_famB fun i _ => rfl
theorem colF_get {cols : List Column} {i : Nat} (h : i < cols.length) : colF cols i = .rows 2 (cellRows cols[i].cells) (some []) := by unfold colF; rw [List.getElem?_eq_getElem h]
def addC (cols : List Column) (k : Nat) (c : Cell) : List Column := cols.modify k fun x => { x with cells := x.cells ++ [c] }
theorem addC_len (cols : List Column) (k : Nat) (c : Cell) : (addC cols k c).length = cols.length := by simp [addC]
theorem addC_ws {cols : List Column} {k : Nat} {c : Cell} (h : k < cols.length) {n : Nat} (hn : n = (cols[k]).cells.length + 1) : (colWs cols).set k [.str (cols[k]).name, .osl 902 k 0 n n] = colWs (addC cols k c) := by
  subst hn
  refine List.ext_getElem? fun i => ?_
  rw [List.getElem?_set]
  by_cases e : k = i
  · subst e
    simp [colWs, addC, colW, h]
  · simp only [colWs, addC, if_neg e, List.getElem?_mapIdx, List.getElem?_modify]
    simp [e]
theorem addC_f {cols : List Column} {k : Nat} {c : Cell} (h : k < cols.length) (i : Nat) : colF (addC cols k c) i = if i = k then .rows 2 (cellRows (cols[k].cells ++ [c])) (some []) else colF cols i := by
  unfold colF addC
  rw [List.getElem?_modify]
  by_cases e : i = k
  · subst e
    simp [h]
  · rw [if_neg e]
    have e2 : ¬ k = i := Ne.symm e
    cases cols[i]? <;> simp [e2]
theorem colWs_sites {cols : List Column} {i q : Nat} {r : List V} {v : V} (hi : (colWs cols)[i]? = some r) (hq : r[q]? = some v) : ∀ s ∈ v.sites, s ∈ [902] := fun s hs => by
  have hlt := (List.getElem?_eq_some_iff.1 hi).1
  rw [colWs_len] at hlt
  rw [colWs_get hlt] at hi
  cases hi
  match q, hq with
  | 0, hq => cases hq; cases hs
  | 1, hq => cases hq; simpa [V.sites] using hs
  | q + 2, hq => simp [colW] at hq
def tabH (id : Int) (name : Str) (cols : List Column) : List (Nat × List Blk) := [(900, [.rows 3 [[.int .i64 id, .str name, .osl 901 0 0 (colWs cols).length (colWs cols).length]] none]), (901, [.rows 2 (colWs cols) (some [902])]), (902, famL (cols.length + 2) (colF cols))]
theorem tabH_within (id : Int) (name : Str) (cols : List Column) : ∀ p ∈ tabH id name cols, ∀ b ∈ p.2, b.within fun k => memB k (keysF (tabH id name cols)) := by
  intro p hp b hb
  simp only [tabH, List.mem_cons, List.not_mem_nil, or_false] at hp
  rcases hp with rfl | rfl | rfl
  · simp only [List.mem_singleton] at hb
    subst hb
    exact Blk.sitesIn_within rfl
  · simp only [List.mem_singleton] at hb
    subst hb
    intro k hk
    simp at hk; subst hk; rfl
  · exact famWithin (colF_fam cols _ b hb)
theorem tabH_ne (id : Int) (name : Str) (cols : List Column) : ∀ p ∈ tabH id name cols, p.2 ≠ [] := by
  intro p hp
  simp only [tabH, List.mem_cons, List.not_mem_nil, or_false] at hp
  rcases hp with rfl | rfl | rfl
  · simp
  · simp
  · intro e
    have := congrArg List.length e
    rw [famL_len] at this
    simp at this
def putC (cols : List Column) (at' : Nat) (t : Table) (row : Nat) : Nat → List Column
  | 0 => cols
  | k + 1 => addC (putC cols at' t row k) (at' + k) (cellT t k row)
theorem putC_len (cols : List Column) (a : Nat) (t : Table) (row : Nat) : ∀ k, (putC cols a t row k).length = cols.length
  | 0 => rfl
  | k + 1 => by rw [putC, addC_len, putC_len cols a t row k]
theorem putC_at (cols : List Column) (a : Nat) (t : Table) (row : Nat) : ∀ k i, a + k ≤ i → (putC cols a t row k)[i]? = cols[i]?
  | 0, _, _ => rfl
  | k + 1, i, h => by
    unfold putC addC
    rw [List.getElem?_modify, putC_at cols a t row k i (by omega)]
    cases cols[i]? with
    | none => rfl
    | some x => simp; intro e; omega
set_option maxHeartbeats 8000000 in
theorem put_spec (id : Int) (name : Str) (cols : List Column) (a : Nat) (t : Table) (row : Nat) (hcl : cols.length ≤ 4096) (ha : a + t.cols.length ≤ cols.length) (hrow : row < 4096) (hv : ∀ c ∈ t.cols, row < c.cells.length ∧ c.cells.length ≤ 4096) (hs : ∀ c ∈ cols, c.cells.length ≤ 100000) :
    SpecF Tryd.prog 21 [.bp 900 0, .int .i64 (a : Nat), .agg t.row, .int .i64 (row : Nat)] (tabH id name cols) (.int .i64 ((a + t.cols.length : Nat) : Int)) (tabH id name (putC cols a t row t.cols.length)) := by
  have hwl := colWs_len cols
  have hwe := colWs_len (putC cols a t row t.cols.length)
  rw [putC_len] at hwe
  have htl := colRows_len t.cols
  have hf1 : tabH id name (putC cols a t row t.cols.length) = [(900, [.rows 3 [[.int .i64 id, .str name, .osl 901 0 0 (colWs cols).length (colWs cols).length]] none]), (901, [.rows 2 (colWs (putC cols a t row t.cols.length)) (some [902])]), (902, famL (cols.length + 2) (colF (putC cols a t row t.cols.length)))] := by
    unfold tabH
    rw [hwe, hwl, putC_len]
  rw [hf1]
  refine gEnF env Tryd.func21 (tabH_within id name cols) fun Γ hN hK hML => ?_
  change W _ _ _ _ _ ⟨_, [(900, [.rows 3 [[.int .i64 id, .str name, .osl 901 0 0 (colWs cols).length (colWs cols).length]] none]), (901, [.rows 2 (colWs (cols)) (some [902])]), (902, famL (cols.length + 2) (colF (cols)))], [900, 901, 902]⟩
  (refine gGo ?_; intros)
  refine W.loopG (fun m st => ∃ j : Nat, j ≤ t.cols.length ∧ m = t.cols.length - j ∧ st = ⟨[(0, .bp 900 0), (1, .int .i64 ((a + j : Nat) : Int)), (3, .int .i64 (row : Nat)), (12, .sl (colRows t.cols) false), (13, .int .i64 (colRows t.cols).length), (14, .int .i64 j)], [(900, [.rows 3 [[.int .i64 id, .str name, .osl 901 0 0 (colWs cols).length (colWs cols).length]] none]), (901, [.rows 2 (colWs (putC cols a t row j)) (some [902])]), (902, famL (cols.length + 2) (colF (putC cols a t row j)))], [900, 901, 902]⟩)
    t.cols.length _ ⟨0, by omega, by omega, rfl⟩ ⟨[(900, 900), (901, 901), (902, 902)], [], [], LeG.mq (.ci 900 (.ci 901 (.fam 902 rfl rfl (colF_fam _ _) .nil)))⟩ ?_
  rintro m st ⟨j, hj, rfl, rfl⟩
  have hpl := putC_len cols a t row j
  have hpw := colWs_len (putC cols a t row j)
  (refine gGo ?_; intros)
  refine boolRes_split (fun hb => ?_) (fun hb => ?_) <;> conv => whnf
  · have hlt : j < t.cols.length := by omega
    have hg := colRows_get hlt
    have hcv := hv _ (List.getElem_mem hlt)
    have hcg := cellRows_get hcv.1
    have hct : cellT t j row = (t.cols[j]).cells[row]'hcv.1 := by simp [cellT, hlt, hcv.1]
    rw [← hct] at hcg
    have hsm : ∀ hh : a + j < (putC cols a t row j).length, ((putC cols a t row j)[a + j]'hh).cells.length ≤ 100000 := fun hh => by
      have h1 := putC_at cols a t row j (a + j) (Nat.le_refl _)
      have h2 : a + j < cols.length := by omega
      rw [List.getElem?_eq_getElem (show a + j < (putC cols a t row j).length by omega), List.getElem?_eq_getElem h2] at h1
      rw [Option.some.inj h1]
      exact hs _ (List.getElem_mem h2)
    have hsn : putC cols a t row (j + 1) = addC (putC cols a t row j) (a + j) (cellT t j row) := rfl
    have hsz := cellRows_len (t.cols[j]).cells
    generalize putC cols a t row j = C at *
    generalize cellT t j row = x at *
    generalize t.cols[j] = cj at *
    have hal : a + j < C.length := by omega
    have hsm := hsm hal
    have hgw := colWs_get hal
    have hset := fun n (hn : n = (C[a + j]).cells.length + 1) => addC_ws (c := x) hal hn
    have hff := addC_f (c := x) hal
    have hfk : (famL (cols.length + 2) (colF C))[a + j]? = some (.rows 2 (cellRows C[a + j].cells) (some [])) := by rw [famL_get (by omega), colF_get hal]
    have hckl := cellRows_len C[a + j].cells
    unfold colW at hgw
    generalize C[a + j] = ck at *
    (refine gGo ?_; intros)
    refine rowAt_of (by simpa using hg) ?_
    conv => whnf
    (refine gGo ?_; intros)
    refine rowAt_of (by rw [show (0 + (((a + j : Nat) : Int)).toNat) = a + j by omega]; exact hgw) ?_
    conv => whnf
    (refine gGo ?_; intros)
    refine rowAt_of (by simpa using hcg) ?_
    conv => whnf
    (refine gGo ?_; intros)
    generalize hO : oslRows _ 902 (a + j) = O
    have hO2 : O = some (2, cellRows ck.cells, some []) := by rw [← hO]; exact oslRows_of hfk
    subst hO2
    clear hO
    conv => whnf
    refine ⟨⟨rowsSz_cons rfl rowsSz_nil, by omega⟩, fitsN (n := ck.cells.length + 1) (b := 24) (by omega) (by omega), .inl ⟨rfl, rfl, ?_⟩⟩
    conv => whnf
    split
    · rename_i heq heq0
      have h9 := congrArg List.length heq
      change (famL (cols.length + 2) (colF C)).length = 1 at h9
      rw [famL_len] at h9
      omega
    rename_i k l0 i0 hnp
    clear hnp
    conv => whnf
    (refine gGo ?_; intros)
    refine rowAt_of (by rw [show (0 + (((a + j : Nat) : Int)).toNat) = a + j by omega]; exact hgw) ?_
    conv => whnf
    (refine gGs ?_; intros)
    refine W.ref (Ref.reks 901 (rows1 := colWs (addC C (a + j) x)) [902] rfl (by rw [← hset _ rfl, show (0 + (((a + j : Nat) : Int)).toNat) = a + j by omega]; rfl) (fun i r q v hi hq => ?_) (fun q hq => ?_)) ?_
    · exact colWs_sites hi hq
    · simp at hq; subst hq; rfl
    (refine gGo ?_; intros)
    refine ⟨_, _, ?_, ⟨j + 1, by omega, rfl, rfl⟩, [(900, 900), (901, 901), (902, 902)], [], [], LeG.mk' rfl rfl rfl (by rw [show ((a + (j + 1) : Nat) : Int) = ((a + j : Nat) : Int) + 1 by omega]; exact (by repeat' (first | exact trivial | exact ⟨_, .refl _, rfl⟩ | apply And.intro))) (.ci 900 (.cons 901 rfl rfl (.refl _) (by rw [hsn]; rfl) (.fam 902 rfl ?_ (colF_fam _ _) .nil))) rfl rfl (by rw [hK]; rfl)⟩
    · omega
    · rw [hsn]
      show _ = (famL _ _).set _ _
      rw [famL_set]
      refine famL_congr fun i _ => ?_
      rw [hff]
      by_cases hik : i = a + j
      · rw [if_pos hik, if_pos hik]
        unfold cellRows
        rw [List.map_append]
        rfl
      · rw [if_neg hik, if_neg hik]
  · obtain rfl : j = t.cols.length := by omega
    (refine gGo ?_; intros)
    (refine gM ?_; conv => whnf)
    exact retF rfl (LeG.mk' rfl rfl rfl ⟨⟨_, .refl _, rfl⟩, trivial⟩ (.ci 900 (.ci 901 (.fam 902 rfl rfl (colF_fam _ _) .nil))) rfl rfl rfl)
end Go.Sx.Sp
namespace Go.Sx.Sp
open Go Go.Sx Go.Proofs
attribute [local irreducible] GoodW famL
theorem byD_zero (l : List Table) (p : Pth) (k : Nat) (hk : k ≤ 1) : byD l p k = List.replicate (p.steps.length + 1) [.nilm] := by
  unfold byD
  apply List.ext_getElem?
  intro q
  rw [List.getElem?_replicate, List.getElem?_map]
  by_cases h : q < p.steps.length + 1
  · rw [if_pos h, List.getElem?_range h]
    simp only [Option.map_some]
    rw [if_neg (by omega)]
  · rw [if_neg h, List.getElem?_eq_none (by simp; omega)]; rfl
theorem byD_at {l : List Table} {p : Pth} {k i : Nat} (h : i < p.steps.length + 1) : (byD l p k)[i]? = some (if 0 < i ∧ i < k then [.dmap (mkD (datE (bunN l p i (rowsN (tabN l p i)))))] else [.nilm]) := by
  unfold byD
  rw [List.getElem?_map, List.getElem?_range h]; rfl
theorem byD_pure {l : List Table} {p : Pth} {k i j : Nat} {r : List V} {v : V} (hi : (byD l p k)[i]? = some r) (hj : r[j]? = some v) : v.sites = [] ∧ v.one = true ∧ j = 0 := by
  have hlt := (List.getElem?_eq_some_iff.1 hi).1
  rw [byD_len] at hlt
  rw [byD_at hlt] at hi
  cases hi
  split at hj
  all_goals
    cases j with
    | zero => cases hj; exact ⟨rfl, rfl, rfl⟩
    | succ j => simp at hj
theorem by_gat {l : List Table} {p : Pth} {k i n d : Nat} {ks : Option (List Nat)} (hd : 34 ≠ d) : BGat d 200 n (.rows 1 ((byD l p k).set i [.omap 34 0]) ks) (.rows 1 ((byD l p k).set i [.omap 34 0]) (some [34])) := by
  refine .rows 1 _ _ _ _ rfl fun j r1 hj => ⟨r1, hj, ?_, fun l' hl v hv s hs => ?_⟩
  · rw [List.getElem?_set] at hj
    split at hj
    · split at hj
      · cases hj
        simp [gatL, V.gat, hd]
      · cases hj
    · refine (gatL_pure _ ?_).symm
      rw [sitesL_eq, List.flatMap_eq_nil_iff]
      intro v hv
      obtain ⟨q, hq⟩ := List.getElem?_of_mem hv
      exact (byD_pure hj hq).1
  · cases hl
    rw [List.getElem?_set] at hj
    split at hj
    · split at hj
      · cases hj
        rw [List.mem_singleton.1 hv] at hs
        simpa [V.sites] using hs
      · cases hj
    · obtain ⟨q, hq⟩ := List.getElem?_of_mem hv
      rw [(byD_pure hj hq).1] at hs; cases hs
theorem by_lent {H : Nat → List Blk} {bo : List Nat} {l : List Table} {p : Pth} {i c : Nat} {ks ks2 : Option (List Nat)} (hi : i < p.steps.length) (hb : memB 34 bo = true) (hq : H 34 = [.map (datE (bunN l p (i + 1) (rowsN (tabN l p (i + 1))))) c ks2]) :
    BLent H bo (.rows 1 ((byD l p (i + 1)).set (i + 1) [.omap 34 0]) ks) (.rows 1 (byD l p (i + 2)) (some [])) := by
  refine .rowsF _ _ _ _ (by rw [List.length_set, byD_len, byD_len]) fun j r1 hj => ?_
  have hlt := (List.getElem?_eq_some_iff.1 hj).1
  rw [byD_len] at hlt
  have hj0 := hj
  rw [byD_at hlt] at hj
  rw [List.getElem?_set, byD_len, byD_at hlt]
  by_cases e : i + 1 = j
  · subst e
    rw [if_pos (by omega)] at hj
    cases hj
    rw [if_pos rfl, if_pos hlt]
    refine ⟨[.omap 34 0], rfl, rfl, fun q v1 hv => ?_⟩
    cases q with
    | succ q => simp at hv
    | zero =>
      cases hv
      exact ⟨.omap 34 0, rfl, .omapF 34 0 _ c ks2 hb (by rw [hq]; rfl) (datE_pure _ _), rfl, rfl⟩
  · rw [if_neg e]
    have e2 : (if 0 < j ∧ j < i + 1 then [V.dmap (mkD (datE (bunN l p j (rowsN (tabN l p j)))))] else [.nilm]) = r1 := by
      rw [← Option.some.inj hj]
      by_cases h1 : 0 < j ∧ j < i + 1
      · rw [if_pos h1, if_pos (by omega)]
      · rw [if_neg h1, if_neg (by omega)]
    rw [e2]
    exact ⟨r1, rfl, rfl, fun q v1 hv => ⟨v1, hv, .refl _, (byD_pure hj0 hv).2.1, (byD_pure hj0 hv).1⟩⟩
theorem nodRows_sz (R : List Nod) : rowsSz (nodRows R) 9 := by
  unfold rowsSz nodRows
  intro r hr
  obtain ⟨c, _, rfl⟩ := List.mem_map.1 hr
  rfl
theorem bunN_snoc (l : List Table) (p : Pth) (i n : Nat) : bunN l p i (n + 1) = if (!(cellT (tabN l p i) (ownN l p i) n).null && decide (0 < cntI l p i n)) = true then addB (bunN l p i n) (cellT (tabN l p i) (ownN l p i) n).text n else bunN l p i n := rfl
set_option maxHeartbeats 32000000 in
theorem rowsW_spec {l : List Table} {p : Pth} (h : validE l p = 0) (htot : (rowsL l p).length ≤ 4096) : Spec Tryd.prog 17 [.ro (planR l p) 0] [] (.osl 95 0 0 (rowRows (rowsL l p)).length (rowRows (rowsL l p)).length) [(95, .rows 1 (rowRows (rowsL l p)) (some []))] := by
  have hpl := plan_rows l p
  have h4 := (valid_path h).2.1
  have hbz := byD_zero l p 1 (by omega)
  have hdl : ((nodRows (planN l p)).drop 1).length = p.steps.length := by rw [List.length_drop]; omega
  refine gEn env Tryd.func17 fun Γ hN hK hML => ?_
  (refine gGo ?_; intros)
  refine And.intro ⟨by omega, by omega, (by show (((nodRows (planN l p)).length : Nat) : Int) * 8 ≤ _; omega), by omega⟩ ?_
  rw [Int.toNat_natCast]
  conv => whnf
  (refine gGo ?_; intros)
  refine And.intro (nodRows_sz _) ?_
  rw [Int.toNat_natCast, List.take_length]
  conv => whnf
  (refine gGo ?_; intros)
  obtain ⟨N, hNN⟩ : ∃ N, N = (nodRows (planN l p)).length := ⟨_, rfl⟩
  refine W.loopG (fun m st => ∃ i : Nat, i ≤ p.steps.length ∧ m = p.steps.length - i ∧ st = ⟨[(1, .bp 1 0), (3, .bp 3 0), (24, .sl ((nodRows (planN l p)).drop 1) false), (25, .int .i64 (((nodRows (planN l p)).drop 1).length : Nat)), (26, .int .i64 i)], [(1, [.rows 1 [[.ro (planR l p) 0]] none]), (3, [.rows 1 [[.osl 19 0 0 N N]] none]), (19, [.rows 1 (byD l p (i + 1)) (some [])])], [1, 3, 19]⟩)
    p.steps.length _ ⟨0, by omega, by omega, rfl⟩ ⟨[(1, 1), (3, 3), (19, 19)], [], [], .mq (.ci 1 (.cons 3 rfl rfl (.refl _) (by rw [hNN]; rfl) (.cons 19 rfl rfl (.refl _) (by rw [show byD l p (0 + 1) = byD l p 1 from rfl, hbz, ← hpl]; rfl) .nil)))⟩ ?_
  rintro m st ⟨i, hi, rfl, rfl⟩
  have hbl := byD_len l p (i + 1)
  (refine gGo ?_; intros)
  refine boolRes_split (fun hb => ?_) (fun hb => ?_) <;> conv => whnf
  · have hlt : i < p.steps.length := by omega
    have hx : ((nodRows (planN l p)).drop 1)[i]? = some ((nodeAt l p p.steps.length (i + 1)).rowW (.sl (natRows (kidsL p p.steps.length (i + 1))) false) (.sl (intRows .i64 (cntsN l p (i + 1))) false) (.dmap (mkD (sumE (talsN l p (i + 1)))))) := by
      rw [List.getElem?_drop, show 1 + i = i + 1 by omega]
      exact plan_row (by omega)
    have hby := byD_at (l := l) (p := p) (k := i + 1) (i := i + 1) (by omega)
    rw [if_neg (by omega)] at hby
    have hcl := intRows_len .i64 (cntsN l p (i + 1))
    rw [cntsN_len] at hcl
    change _ = rowsN (tabN l p (i + 1)) at hcl
    have hr4 := (validB_rows (tabN_ok h (i := i + 1) (by omega))).1
    have hcg : ∀ y, y < rowsN (tabN l p (i + 1)) → (intRows .i64 (cntsN l p (i + 1)))[y]? = some [.int .i64 (cntI l p (i + 1) y)] := fun y hy => cntsN_get hy
    have hsf := pathB_step (valid_path h).2.2 hlt
    have hown : ownN l p (i + 1) < (tabN l p (i + 1)).cols.length := by
      have := hsf.tc
      show (stpAt p i).tc.toNat < _
      rw [show tabN l p (i + 1) = tabOf l (stpAt p i).tt from rfl]
      omega
    have spC := column_spec (tabN l p (i + 1)) (ownN l p (i + 1)) hown
    have hvr := (validB_rows (tabN_ok h (i := i + 1) (by omega))).2 _ (List.getElem_mem hown)
    have hcc : ∀ y, y < rowsN (tabN l p (i + 1)) → (cellRows ((tabN l p (i + 1)).cols[ownN l p (i + 1)]).cells)[y]? = some (cellT (tabN l p (i + 1)) (ownN l p (i + 1)) y).row := fun y hy => by
      rw [cellRows_get (by omega)]
      unfold cellT
      have hlt2 : y < ((tabN l p (i + 1)).cols[ownN l p (i + 1)]).cells.length := by omega
      rw [List.getD_eq_getElem?_getD (l := (tabN l p (i + 1)).cols), List.getElem?_eq_getElem hown]
      simp only [Option.getD_some]
      rw [List.getD_eq_getElem?_getD (l := ((tabN l p (i + 1)).cols[ownN l p (i + 1)]).cells), List.getElem?_eq_getElem hlt2]
      rfl
    have hcel := cellRows_len ((tabN l p (i + 1)).cols[ownN l p (i + 1)]).cells
    generalize ((tabN l p (i + 1)).cols[ownN l p (i + 1)]).cells = cells at *
    have ht : (nodeAt l p p.steps.length (i + 1)).t = tabN l p (i + 1) := rfl
    have ho : (nodeAt l p p.steps.length (i + 1)).own = ownN l p (i + 1) := rfl
    generalize nodeAt l p p.steps.length (i + 1) = nd at *
    unfold Nod.rowW at hx
    rw [ht, ho] at hx
    generalize intRows .i64 (cntsN l p (i + 1)) = cs at *
    have hsnoc := fun n => bunN_snoc l p (i + 1) n
    have hlook := fun n s => bunN_look l p (i + 1) n s
    have hblen : ∀ n, (bunN l p (i + 1) n).length ≤ n := fun n => bunS_len _ _ n
    have hlble : ∀ n s, (lookB (bunN l p (i + 1) n) s).length ≤ n := fun n s => lookB_le _ _ _ _
    have hset : ((byD l p (i + 1)).set (i + 1) [.omap 34 0]).length = N := by rw [List.length_set]; omega
    have hsetg : ((byD l p (i + 1)).set (i + 1) [.omap 34 0])[i + 1]? = some [.omap 34 0] := by rw [List.getElem?_set, if_pos rfl, if_pos (by omega)]
    have hbun0 : bunN l p (i + 1) 0 = [] := rfl
    (refine gGo ?_; intros)
    refine rowAt_of (by simpa using hx) ?_
    conv => whnf
    (refine gGo ?_; intros)
    refine rowAt_of (by simpa using hby) ?_
    conv => whnf
    (refine gGo ?_; intros)
    refine W.ref (Ref.reserve 200 2 1 rfl) ?_
    refine W.ref (Ref.rekm 34 [200] rfl (fun i b k v hi => by simp at hi) (fun q hq => by simp at hq; subst hq; rfl)) ?_
    refine W.leG (mp := [(1, 1), (3, 3), (19, 19), (5, 5), (34, 34), (200, 200)]) (bo := []) (st' := ⟨[(1, .bp 1 0), (3, .bp 3 0), (24, .sl ((nodRows (planN l p)).drop 1) false), (25, .int .i64 (((nodRows (planN l p)).drop 1).length : Nat)), (26, .int .i64 i), (4, .int .i64 i), (5, .bp 5 0), (37, .sl cs false), (38, .int .i64 cs.length), (39, .int .i64 (0 : Nat))], [(1, [.rows 1 [[.ro (planR l p) 0]] none]), (3, [.rows 1 [[.osl 19 0 0 N N]] none]), (19, [.rows 1 ((byD l p (i + 1)).set (i + 1) [.omap 34 0]) (some [34])]), (5, [.rows 9 [[.int .i64 (tabN l p (i + 1)).id, .str (tabN l p (i + 1)).name, .sl (colRows (tabN l p (i + 1)).cols) false, .int .i64 nd.par, .int .i64 nd.fr, .int .i64 (ownN l p (i + 1)), .sl (natRows (kidsL p p.steps.length (i + 1))) false, .sl cs false, .dmap (mkD (sumE (talsN l p (i + 1))))]] none]), (34, [.map (ownE 200 (([] : Bun))) (([] : Bun)).length (some [200])]), (200, ownF [])], [1, 3, 19, 5, 34, 200]⟩)
      (LeG.mq (.ci 1 (.ci 3 (.cons 19 rfl rfl (.refl _) ?_ (.ci 5 (.ci 34 (.fam 200 rfl (by show _ = famL 2 _; unfold famL; rfl) (ownF_fam _) .nil))))))) ?_
    · rw [show (0 + ((i : Int) + 1).toNat) = i + 1 by omega]; rfl
    refine W.loopG (fun m st => ∃ y : Nat, y ≤ rowsN (tabN l p (i + 1)) ∧ m = rowsN (tabN l p (i + 1)) - y ∧ st = ⟨[(1, .bp 1 0), (3, .bp 3 0), (24, .sl ((nodRows (planN l p)).drop 1) false), (25, .int .i64 (((nodRows (planN l p)).drop 1).length : Nat)), (26, .int .i64 i), (4, .int .i64 i), (5, .bp 5 0), (37, .sl cs false), (38, .int .i64 cs.length), (39, .int .i64 y)], [(1, [.rows 1 [[.ro (planR l p) 0]] none]), (3, [.rows 1 [[.osl 19 0 0 N N]] none]), (19, [.rows 1 ((byD l p (i + 1)).set (i + 1) [.omap 34 0]) (some [34])]), (5, [.rows 9 [[.int .i64 (tabN l p (i + 1)).id, .str (tabN l p (i + 1)).name, .sl (colRows (tabN l p (i + 1)).cols) false, .int .i64 nd.par, .int .i64 nd.fr, .int .i64 (ownN l p (i + 1)), .sl (natRows (kidsL p p.steps.length (i + 1))) false, .sl cs false, .dmap (mkD (sumE (talsN l p (i + 1))))]] none]), (34, [.map (ownE 200 (bunN l p (i + 1) y)) (bunN l p (i + 1) y).length (some [200])]), (200, ownF (bunN l p (i + 1) y))], [1, 3, 19, 5, 34, 200]⟩)
      (rowsN (tabN l p (i + 1))) _ ⟨0, by omega, by omega, rfl⟩ ⟨[(1, 1), (3, 3), (19, 19), (5, 5), (34, 34), (200, 200)], [], [], .mq (.ci 1 (.ci 3 (.ci 19 (.ci 5 (.cons 34 rfl rfl (.refl _) (rfl) (.fam 200 rfl (rfl) (ownF_fam _) .nil))))))⟩ ?_
    rintro m st ⟨y, hy, rfl, rfl⟩
    (refine gGo ?_; intros)
    refine boolRes_split (fun hb => ?_) (fun hb => ?_) <;> conv => whnf
    · have hyl : y < rowsN (tabN l p (i + 1)) := by omega
      have hg1 := hcg y hyl
      have hg2 := hcc y hyl
      have hsn := hsnoc y
      have hlk := hlble y (cellT (tabN l p (i + 1)) (ownN l p (i + 1)) y).text
      have hbn := hblen y
      have hcb := cntI_bound h (i := i + 1) (by omega) hyl
      generalize bunN l p (i + 1) y = T at *
      generalize cellT (tabN l p (i + 1)) (ownN l p (i + 1)) y = x at *
      generalize cntI l p (i + 1) y = cnt at *
      (refine gGo ?_; intros)
      refine rowAt_of (by simpa using hg1) ?_
      conv => whnf
      (refine gGo ?_; intros)
      (refine ⟨_, _, _, callG [] [] [] rfl rfl rfl (by kernel_rfl) (spC) (by refine ⟨Lent.row ?_, Lent.refl _, trivial⟩; repeat' (first | exact trivial | exact ⟨Lent.refl _, rfl⟩ | exact ⟨Lent.dead _, rfl⟩ | apply And.intro)) rfl ⟨rfl, rfl, rfl, rfl, rfl, by repeat' (first | exact trivial | rfl | apply And.intro), rfl, rfl⟩, ?_⟩; conv => whnf)
      (refine gGo ?_; intros)
      refine rowAt_of (by simpa using hg2) ?_
      conv => whnf
      (refine gGo ?_; intros)
      cases hnull : x.null with
      | true =>
        rw [if_neg (by rw [hnull]; simp)] at hsn
        conv => whnf
        (refine gGo ?_; intros)
        refine ⟨_, _, ?_, ⟨y + 1, by omega, rfl, rfl⟩, [(1, 1), (3, 3), (19, 19), (5, 5), (34, 34), (200, 200)], [], [], .mq (.ci 1 (.ci 3 (.ci 19 (.ci 5 (.cons 34 rfl rfl (.refl _) (by rw [hsn]; rfl) (.fam 200 rfl (by rw [hsn]; rfl) (ownF_fam _) .nil))))))⟩
        omega
      | false =>
        rw [hnull, Bool.not_false, Bool.true_and] at hsn
        conv => whnf
        (refine gGo ?_; intros)
        by_cases hpos : 0 < cnt
        · rw [decide_eq_true hpos, if_pos rfl] at hsn
          (refine gGo ?_; intros)
          refine rowAt_of (by rw [show (0 + ((i : Int) + 1).toNat) = i + 1 by omega]; exact hsetg) ?_
          conv => whnf
          (refine gGo ?_; intros)
          refine rowAt_of (by rw [show (0 + ((i : Int) + 1).toNat) = i + 1 by omega]; exact hsetg) ?_
          conv => whnf
          (refine gGo ?_; intros)
          refine zok_intro (by kernel_rfl) ?_
          conv => whnf
          have ha := ownE_at 200 T x.text
          refine ⟨_, ha, ?_⟩
          cases hix : ixS x.text (keysT T) with
          | none =>
            rw [hix] at ha
            have hgt := fun ks => ownE_gat (i := y) (d := 75) (F := 200) (c1 := T.length + 1) (by decide) hix rfl ks
            have hfn := ownF_new (i := y) hix
            have hfl := ownF_len T
            have hl1 : (addB T x.text y).length = T.length + 1 := by rw [addB_none hix]; simp
            conv => whnf
            (refine gGo ?_; intros)
            refine ⟨rowsSz_cons rfl rowsSz_nil, fitsN (n := 1) (b := 8) (by decide) (by decide), Or.inl ?_⟩
            conv => whnf
            (refine gGo ?_; intros)
            refine ⟨_, ha, ?_⟩
            conv => whnf
            (refine gGs ?_; intros)
            refine W.ref (Ref.gather 75 200 (b := .rows 1 [[.int .i64 y]] (some [])) (L := ownF T) (hp := [(1, [.rows 1 [[.ro (planR l p) 0]] none]), (3, [.rows 1 [[.osl 19 0 0 N N]] none]), (19, [.rows 1 ((byD l p (i + 1)).set (i + 1) [.omap 34 0]) (some [34])]), (5, [.rows 9 [[.int .i64 (tabN l p (i + 1)).id, .str (tabN l p (i + 1)).name, .sl (colRows (tabN l p (i + 1)).cols) false, .int .i64 nd.par, .int .i64 nd.fr, .int .i64 (ownN l p (i + 1)), .sl (natRows (kidsL p p.steps.length (i + 1))) false, .sl cs false, .dmap (mkD (sumE (talsN l p (i + 1))))]] none]), (34, [.map (ownE 200 (addB T x.text y)) (T.length + 1) (some [200])])])
              (s' := ⟨[(1, .bp 1 0), (3, .bp 3 0), (24, .sl ((nodRows (planN l p)).drop 1) false), (25, .int .i64 (((nodRows (planN l p)).drop 1).length : Nat)), (26, .int .i64 i), (4, .int .i64 i), (5, .bp 5 0), (37, .sl cs false), (38, .int .i64 cs.length), (39, .int .i64 y)], [(200, ownF T ++ [.rows 1 [[.int .i64 y]] (some [])]), (1, [.rows 1 [[.ro (planR l p) 0]] none]), (3, [.rows 1 [[.osl 19 0 0 N N]] none]), (19, [.rows 1 ((byD l p (i + 1)).set (i + 1) [.omap 34 0]) (some [34])]), (5, [.rows 9 [[.int .i64 (tabN l p (i + 1)).id, .str (tabN l p (i + 1)).name, .sl (colRows (tabN l p (i + 1)).cols) false, .int .i64 nd.par, .int .i64 nd.fr, .int .i64 (ownN l p (i + 1)), .sl (natRows (kidsL p p.steps.length (i + 1))) false, .sl cs false, .dmap (mkD (sumE (talsN l p (i + 1))))]] none]), (34, [.map (ownE 200 (addB T x.text y)) (T.length + 1) (some [200])])], _⟩)
              rfl rfl rfl rfl rfl (ownF_fam _) rfl (by repeat' (first | exact trivial | apply And.intro | rfl))
              ⟨⟨rfl, rfl, _, _, rfl, rfl, one_gat rfl, rfl⟩, ⟨rfl, rfl, _, _, rfl, rfl, one_gat rfl, rfl⟩, ⟨rfl, rfl, _, _, rfl, rfl, by_gat (by decide), rfl⟩, ⟨rfl, rfl, _, _, rfl, rfl, one_gat rfl, rfl⟩, ⟨rfl, rfl, _, _, rfl, rfl, (by rw [hfl]; exact hgt _), rfl⟩, trivial⟩ rfl (by rw [hK]; rfl)) ?_
            (refine gGo ?_; intros)
            refine ⟨_, _, ?_, ⟨y + 1, by omega, rfl, rfl⟩, [(1, 1), (3, 3), (19, 19), (5, 5), (34, 34), (200, 200)], [], [], .mq (.ci 1 (.ci 3 (.ci 19 (.ci 5 (.cons 34 rfl rfl (.refl _) (by rw [hsn, hl1]; rfl) (.fam 200 rfl (by rw [hsn, ← hfn]; rfl) (ownF_fam _) .nil))))))⟩
            omega
          | some q =>
            rw [hix] at ha
            have hfk := ownF_get (lookB_at hix)
            have hse := fun n (hn : n = (lookB T x.text).length + 1) => ownE_set (F := 200) (i := y) hix hn
            have hsf := ownF_set (i := y) hix
            have hnl := natRows_len (lookB T x.text)
            have hl1 : (addB T x.text y).length = T.length := by rw [addB_some hix]; simp
            conv => whnf
            (refine gGo ?_; intros)
            generalize hO : oslRows _ 200 (q + 2) = O
            have hO2 : O = some (1, natRows (lookB T x.text), some []) := by rw [← hO]; exact oslRows_of hfk
            subst hO2
            clear hO
            conv => whnf
            refine ⟨⟨rowsSz_cons rfl rowsSz_nil, by omega⟩, fitsN (n := (lookB T x.text).length + 1) (b := 8) (by omega) (by omega), .inl ⟨rfl, rfl, ?_⟩⟩
            conv => whnf
            (refine gGo ?_; intros)
            refine ⟨_, ha, ?_⟩
            conv => whnf
            (refine gGs ?_; intros)
            refine W.ref (Ref.rekm' 34 (es1 := ownE 200 (addB T x.text y)) [200] rfl (by rw [← hse _ rfl]; rfl) ownE_sites (fun q hq => by simp at hq; subst hq; rfl)) ?_
            (refine gGo ?_; intros)
            refine ⟨_, _, ?_, ⟨y + 1, by omega, rfl, rfl⟩, [(1, 1), (3, 3), (19, 19), (5, 5), (34, 34), (200, 200)], [], [], .mq (.ci 1 (.ci 3 (.ci 19 (.ci 5 (.cons 34 rfl rfl (.refl _) (by rw [hsn, hl1]; rfl) (.fam 200 rfl (by rw [hsn, ← hsf]; unfold lisB; rw [show natRows (lookB T x.text ++ [y]) = natRows (lookB T x.text) ++ [[.int .i64 (y : Int)]] by simp [natRows]]; rfl) (ownF_fam _) .nil))))))⟩
            omega
        · rw [decide_eq_false hpos, if_neg (by decide)] at hsn
          (refine gGo ?_; intros)
          refine ⟨_, _, ?_, ⟨y + 1, by omega, rfl, rfl⟩, [(1, 1), (3, 3), (19, 19), (5, 5), (34, 34), (200, 200)], [], [], .mq (.ci 1 (.ci 3 (.ci 19 (.ci 5 (.cons 34 rfl rfl (.refl _) (by rw [hsn]; rfl) (.fam 200 rfl (by rw [hsn]; rfl) (ownF_fam _) .nil))))))⟩
          omega
    · have hye : y = rowsN (tabN l p (i + 1)) := by omega
      rw [hye]
      refine gA ?_
      refine gD rfl ?_
      refine gG ?_
      conv => whnf
      refine W.leG (mp := [(1, 1), (3, 3), (19, 19), (34, 34)]) (bo := [200]) (st' := ⟨[(1, .bp 1 0), (3, .bp 3 0), (24, .sl ((nodRows (planN l p)).drop 1) false), (25, .int .i64 (((nodRows (planN l p)).drop 1).length : Nat)), (26, .int .i64 i)], [(1, [.rows 1 [[.ro (planR l p) 0]] none]), (3, [.rows 1 [[.osl 19 0 0 N N]] none]), (19, [.rows 1 ((byD l p (i + 1)).set (i + 1) [.omap 34 0]) (some [34])]), (34, [.map (datE (bunN l p (i + 1) (rowsN (tabN l p (i + 1))))) (bunN l p (i + 1) (rowsN (tabN l p (i + 1)))).length (some [])])], [1, 3, 19, 34]⟩)
        (LeG.mq (.ci 1 (.ci 3 (.ci 19 (.cons 34 (b1 := .map (datE (bunN l p (i + 1) (rowsN (tabN l p (i + 1))))) (bunN l p (i + 1) (rowsN (tabN l p (i + 1)))).length (some [])) rfl rfl (datE_lent rfl rfl) rfl .nil))))) ?_
      refine W.leG (mp := [(1, 1), (3, 3), (19, 19)]) (bo := [34]) (st' := ⟨[(1, .bp 1 0), (3, .bp 3 0), (24, .sl ((nodRows (planN l p)).drop 1) false), (25, .int .i64 (((nodRows (planN l p)).drop 1).length : Nat)), (26, .int .i64 i)], [(1, [.rows 1 [[.ro (planR l p) 0]] none]), (3, [.rows 1 [[.osl 19 0 0 N N]] none]), (19, [.rows 1 (byD l p (i + 2)) (some [])])], [1, 3, 19]⟩)
        (LeG.mq (.ci 1 (.ci 3 (.cons 19 (b1 := .rows 1 (byD l p (i + 2)) (some [])) rfl rfl (by_lent hlt rfl rfl) rfl .nil)))) ?_
      (refine gGo ?_; intros)
      refine ⟨_, _, ?_, ⟨i + 1, by omega, rfl, rfl⟩, [(1, 1), (3, 3), (19, 19)], [], [], .mq (.ci 1 (.ci 3 (.ci 19 .nil)))⟩
      omega
  · have hie : i = p.steps.length := by omega
    rw [hie]
    refine gA ?_
    refine gD rfl ?_
    refine gG ?_
    conv => whnf
    refine W.leG (mp := [(1, 1), (3, 3)]) (bo := [19]) (st' := ⟨[(1, .bp 1 0), (3, .bp 3 0)], [(1, [.rows 1 [[.ro (planR l p) 0]] none]), (3, [.rows 1 [[.sl (byD l p (p.steps.length + 1)) false]] none])], [1, 3]⟩)
      (LeG.mq (.ci 1 (.cons 3 (b1 := .rows 1 [[.sl (byD l p (p.steps.length + 1)) false]] none) rfl rfl (.rows _ _ _ (by repeat' (first | exact trivial | exact ⟨Lent.whole rfl rfl (by rw [byD_len]; omega) rfl (.inl rfl), rfl⟩ | apply And.intro))) rfl .nil))) ?_
    (refine gGo ?_; intros)
    refine And.intro ⟨by omega, by omega, (by show (((nodRows (planN l p)).length : Nat) : Int) * 8 ≤ _; omega), by omega⟩ ?_
    rw [Int.toNat_natCast]
    conv => whnf
    (refine gGo ?_; intros)
    have hx0 := plan_row (l := l) (p := p) (Nat.zero_le _)
    have hc0 := intRows_len .i64 (cntsN l p 0)
    rw [cntsN_len] at hc0
    change _ = rowsN (tabN l p 0) at hc0
    have hr0 := (validB_rows (tabN_ok h (i := 0) (by omega))).1
    have hg0 : ∀ y, y < rowsN (tabN l p 0) → (intRows .i64 (cntsN l p 0))[y]? = some [.int .i64 (cntI l p 0 y)] := fun y hy => cntsN_get hy
    generalize intRows .i64 (cntsN l p 0) = cs at *
    obtain ⟨O, hO⟩ : ∃ O : Nat → List (List Nat), O = fun r => ((List.range r).filter fun r => decide (0 < cntI l p 0 r)).flatMap fun r => visL l p p.steps.length [r] := ⟨_, rfl⟩
    obtain ⟨R, hR0, hRs⟩ : ∃ R : Nat → List Nat, R 0 = List.replicate N 0 ∧ ∀ r, R (r + 1) = if 0 < cntI l p 0 r then r :: restA l p p.steps.length [r] (R r).tail else R r := ⟨fun n => Nat.rec (List.replicate N 0) (fun r x => if 0 < cntI l p 0 r then r :: restA l p p.steps.length [r] x.tail else x) n, rfl, fun r => rfl⟩
    have hO0 : O 0 = [] := by rw [hO]; rfl
    have hOs : ∀ r, O (r + 1) = if 0 < cntI l p 0 r then O r ++ visL l p p.steps.length [r] else O r := fun r => by
      rw [hO]
      simp only [List.range_succ, List.filter_append, List.flatMap_append]
      by_cases hc : 0 < cntI l p 0 r <;> simp [hc]
    have hOe : O (rowsN (tabN l p 0)) = rowsL l p := by rw [← rowsW_eq h, hO]; rfl
    have hRl : ∀ r, (R r).length = p.steps.length + 1 := fun r => by
      induction r with
      | zero => rw [hR0, List.length_replicate]; omega
      | succ r ih =>
        rw [hRs]
        split
        · rw [List.length_cons, restA_len l p _ _ _ (by rw [List.length_tail, ih]; rfl)]
        · exact ih
    have hOl : ∀ r, r ≤ rowsN (tabN l p 0) → (O r).length ≤ 4096 := fun r hr => by
      have h1 : ∀ d r, (O r).length ≤ (O (r + d)).length := fun d r => by
        induction d with
        | zero => exact Nat.le_refl _
        | succ d ih =>
          rw [show r + (d + 1) = (r + d) + 1 by omega, hOs]
          split
          · rw [List.length_append]; omega
          · exact ih
      have h2 := h1 (rowsN (tabN l p 0) - r) r
      rw [show r + (rowsN (tabN l p 0) - r) = rowsN (tabN l p 0) by omega, hOe] at h2
      omega
    have hrep : natRows (R 0) = List.replicate N [.int .i64 0] := by rw [hR0]; simp [natRows]
    have hrl0 := natRows_len (R 0)
    have hRl0 := hRl 0
    clear hO
    refine rowAt_of (by simpa using hx0) ?_
    conv => whnf
    (refine gGo ?_; intros)
    refine W.ownCell 9 0 0 95 1 rfl rfl rfl rfl rfl ?_
    refine W.leG (mp := [(1, 90), (9, 91), (10, 92), (3, 93), (11, 94), (95, 95), (83, 96)]) (bo := []) (st' := ⟨[(9, .bp 91 0), (10, .bp 92 0), (11, .bp 94 0), (91, .sl cs false), (92, .int .i64 cs.length), (93, .int .i64 (0 : Nat))], [(90, [.rows 1 [[.ro (planR l p) 0]] none]), (91, [.rows 1 [[.osl 95 0 0 (rowRows (O 0)).length (rowRows (O 0)).length]] none]), (92, [.rows 1 [[.osl 96 0 0 (natRows (R 0)).length (natRows (R 0)).length]] none]), (93, [.rows 1 [[.sl (byD l p (p.steps.length + 1)) false]] none]), (94, [.rows 1 [[.fn 26 [.bp 90 0, .bp 91 0, .bp 92 0, .bp 93 0, .bp 94 0]]] none]), (95, [.rows 1 (rowRows (O 0)) (some [])]), (96, [.rows 1 (natRows (R 0)) (some [])])], [90, 91, 92, 93, 94, 95, 96]⟩)
      (LeG.mq (.ci 1 (.cons 9 rfl rfl (.refl _) (by rw [hO0]; rfl) (.cons 10 rfl rfl (.refl _) (by rw [hrl0, hRl0, ← hpl]; rfl) (.ci 3 (.ci 11 (.cons 95 rfl rfl (.refl _) (by rw [hO0]; rfl) (.cons 83 rfl rfl (.refl _) (by rw [hrep, hNN]; rfl) .nil)))))))) ?_
    refine W.loopG (fun m st => ∃ r : Nat, r ≤ rowsN (tabN l p 0) ∧ m = rowsN (tabN l p 0) - r ∧ st = ⟨[(9, .bp 91 0), (10, .bp 92 0), (11, .bp 94 0), (91, .sl cs false), (92, .int .i64 cs.length), (93, .int .i64 r)], [(90, [.rows 1 [[.ro (planR l p) 0]] none]), (91, [.rows 1 [[.osl 95 0 0 (rowRows (O r)).length (rowRows (O r)).length]] none]), (92, [.rows 1 [[.osl 96 0 0 (natRows (R r)).length (natRows (R r)).length]] none]), (93, [.rows 1 [[.sl (byD l p (p.steps.length + 1)) false]] none]), (94, [.rows 1 [[.fn 26 [.bp 90 0, .bp 91 0, .bp 92 0, .bp 93 0, .bp 94 0]]] none]), (95, [.rows 1 (rowRows (O r)) (some [])]), (96, [.rows 1 (natRows (R r)) (some [])])], [90, 91, 92, 93, 94, 95, 96]⟩)
      (rowsN (tabN l p 0)) _ ⟨0, by omega, by omega, rfl⟩ ⟨[(90, 90), (91, 91), (92, 92), (93, 93), (94, 94), (95, 95), (96, 96)], [], [], .mq (.ci 90 (.ci 91 (.ci 92 (.ci 93 (.ci 94 (.ci 95 (.ci 96 .nil)))))))⟩ ?_
    rintro m st ⟨r, hr, rfl, rfl⟩
    have hrrl := natRows_len (R r)
    have hRlr := hRl r
    (refine gGo ?_; intros)
    refine boolRes_split (fun hb => ?_) (fun hb => ?_) <;> conv => whnf
    · have hlt : r < rowsN (tabN l p 0) := by omega
      have hg := hg0 r hlt
      have hos := hOs r
      have hrs := hRs r
      have hol1 := hOl (r + 1) (by omega)
      have hcb := cntI_bound h (i := 0) (by omega) hlt
      (refine gGo ?_; intros)
      refine rowAt_of (by simpa using hg) ?_
      conv => whnf
      (refine gGo ?_; intros)
      by_cases hpos : 0 < cntI l p 0 r
      · rw [if_pos hpos] at hos hrs
        rw [hos, List.length_append] at hol1
        obtain ⟨z, hgi⟩ : ∃ z : Int, (natRows (R r))[0]? = some [.int .i64 z] := ⟨_, natRows_get (by omega)⟩
        have hset : (natRows (R r)).set 0 [.int .i64 ((r : Nat) : Int)] = natRows ([r] ++ (R r).tail) := by
          cases hRc : R r with
          | nil => rw [hRc] at hRlr; simp at hRlr
          | cons z zs => simp [natRows]
        have hsp := visit_spec h p.steps.length [r] (R r).tail (O r) (by simp) (by rw [List.length_singleton]; omega) (by rw [List.length_tail]; omega) ⟨fun i hi => (by
          have e : i = 0 := (by rw [List.length_singleton] at hi; omega)
          subst e; exact hlt), fun q hq => (by rw [List.length_singleton] at hq; omega)⟩ (fun i hi => (by
          have e : i = 0 := (by rw [List.length_singleton] at hi; omega)
          subst e
          show cntI l p 0 r ≠ 0
          omega)) hol1
        rw [← hos, show [r] ++ restA l p p.steps.length [r] (R r).tail = R (r + 1) by rw [hrs]; rfl] at hsp
        have hnl3 := natRows_len ([r] ++ (R r).tail)
        have hrl4 : ([r] ++ (R r).tail).length = p.steps.length + 1 := by rw [List.length_append, List.length_tail, List.length_singleton]; omega
        have hle : (natRows ([r] ++ (R r).tail)).length = (natRows (R r)).length := by omega
        change Spec _ _ [.int .i64 1, _, _, _, _, _] _ _ _ at hsp
        unfold visH at hsp
        generalize [r] ++ (R r).tail = row1 at *
        refine gK (by omega) ?_
        conv => whnf
        (refine gGs ?_; intros)
        refine gC rfl ?_
        refine gA ?_
        (refine gE env hN (by kernel_rfl) ?_; conv => whnf)
        (refine gGs ?_; intros)
        refine rowAt_of (by simpa using hgi) ?_
        conv => whnf
        (refine gGs ?_; intros)
        refine W.leG (mp := [(90, 90), (91, 91), (92, 92), (93, 93), (94, 94), (95, 95), (96, 96)]) (bo := []) (st' := ⟨[(9, .bp 91 0), (10, .bp 92 0), (11, .bp 94 0), (91, .sl cs false), (92, .int .i64 cs.length), (93, .int .i64 r)], [(90, [.rows 1 [[.ro (planR l p) 0]] none]), (91, [.rows 1 [[.osl 95 0 0 (rowRows (O r)).length (rowRows (O r)).length]] none]), (92, [.rows 1 [[.osl 96 0 0 (natRows row1).length (natRows row1).length]] none]), (93, [.rows 1 [[.sl (byD l p (p.steps.length + 1)) false]] none]), (94, [.rows 1 [[.fn 26 [.bp 90 0, .bp 91 0, .bp 92 0, .bp 93 0, .bp 94 0]]] none]), (95, [.rows 1 (rowRows (O r)) (some [])]), (96, [.rows 1 (natRows row1) (some [])])], [90, 91, 92, 93, 94, 95, 96]⟩)
          (LeG.mq (.ci 90 (.ci 91 (.cons 92 rfl rfl (.refl _) (by rw [hle]; rfl) (.ci 93 (.ci 94 (.ci 95 (.cons 96 rfl rfl (.refl _) (by rw [← hset]; rfl) .nil)))))))) ?_
        (refine gGo ?_; intros)
        (refine gCA [(90, 90), (91, 91), (92, 92), (93, 93), (94, 94), (95, 95), (96, 96)] [] [] (hsp) ?_; conv => whnf)
        (refine gGo ?_; intros)
        refine ⟨_, _, ?_, ⟨r + 1, by omega, rfl, rfl⟩, [(90, 90), (91, 91), (92, 92), (93, 93), (94, 94), (95, 95), (96, 96)], [], [], .mq (.ci 90 (.ci 91 (.ci 92 (.ci 93 (.ci 94 (.ci 95 (.ci 96 .nil))))))) ⟩
        omega
      · rw [if_neg hpos] at hos hrs
        (refine gGo ?_; intros)
        refine ⟨_, _, ?_, ⟨r + 1, by omega, rfl, rfl⟩, [(90, 90), (91, 91), (92, 92), (93, 93), (94, 94), (95, 95), (96, 96)], [], [], .mq (.ci 90 (.cons 91 rfl rfl (.refl _) (by rw [hos]; rfl) (.cons 92 rfl rfl (.refl _) (by rw [hrs]; rfl) (.ci 93 (.ci 94 (.cons 95 rfl rfl (.refl _) (by rw [hos]; rfl) (.cons 96 rfl rfl (.refl _) (by rw [hrs]; rfl) .nil)))))))⟩
        omega
    · have hre : r = rowsN (tabN l p 0) := by omega
      rw [hre, hOe]
      (refine gGo ?_; intros)
      (refine gM ?_; conv => whnf)
      exact retH rfl (.refl _) rfl rfl rfl ⟨rfl, rfl, trivial⟩
end Go.Sx.Sp
namespace Go.Sx.Sp
open Go Go.Sx Go.Proofs
attribute [local irreducible] GoodW famL
def planE (l : List Table) (p : Pth) : Int := if validE l p = 0 then (if (rowsL l p).length ≤ 4096 then 0 else 3) else validE l p
theorem totN_eq (l : List Table) (p : Pth) : totN l p = ((rowsL l p).length : Int) := rows_total
theorem planE_ok {l : List Table} {p : Pth} (h : planE l p = 0) : validE l p = 0 ∧ (rowsL l p).length ≤ 4096 := by
  unfold planE at h
  split at h
  · rename_i h0
    split at h
    · rename_i h1; exact ⟨h0, h1⟩
    · cases h
  · rename_i h0; exact absurd h h0
set_option maxHeartbeats 4000000 in
theorem plan_ok {l : List Table} {p : Pth} (h : planE l p = 0) : Spec Tryd.prog 16 [.sl (tblRows l) false, .agg p.row] [] (.tup [.ro (planR l p) 0, .int .i64 0]) [] := by
  obtain ⟨h, htot⟩ := planE_ok h
  have sp1 := validP_spec l p
  have sp2 := new_spec l p (pathOK_of h) (cntOK_of h)
  have sp3 := total_spec h
  have hpl := plan_rows l p
  have hlen := planN_len l p
  rw [h] at sp1
  rw [totN_eq] at sp3
  unfold planR at *
  refine gEn env Tryd.func16 fun Γ hN hK hML => ?_
  (refine gGo ?_; intros)
  (refine gPC (sp1) ?_; conv => whnf)
  (refine gGo ?_; intros)
  (refine gCA [] [(0, 15), (1, 90)] [] (sp2) ?_; conv => whnf)
  (refine gGs ?_; intros)
  refine W.leG (mp := [(15, 15)]) (bo := [90]) (st' := ⟨[(7, .bp 15 0)], [(15, [.rows 1 [[.sl (nodRows (planN l p)) false]] none])], [15]⟩)
    (LeG.mq (.cons 15 (b1 := .rows 1 [[.sl (nodRows (planN l p)) false]] none) rfl rfl (.rows _ _ _ (by repeat' (first | exact trivial | exact ⟨Lent.whole rfl rfl hpl.symm rfl (.inl rfl), rfl⟩ | apply And.intro))) rfl .nil)) ?_
  refine W.leG (mp := []) (bo := [15]) (st' := ⟨[(7, .ro [.sl (nodRows (planN l p)) false] 0)], [], []⟩)
    (LeG.mk' rfl rfl rfl ⟨⟨_, Lent.bp 15 0 1 [.sl (nodRows (planN l p)) false] none rfl rfl (Nat.zero_le _) (.inr rfl), rfl⟩, trivial⟩ .nil rfl rfl (by rw [hK]; rfl)) ?_
  (refine gGo ?_; intros)
  (refine gPC (sp3) ?_; conv => whnf)
  (refine gGo ?_; intros)
  (refine gM ?_; conv => whnf)
  exact ret0 rfl rfl rfl
set_option maxHeartbeats 4000000 in
theorem plan_err {l : List Table} {p : Pth} (h : planE l p ≠ 0) : Spec Tryd.prog 16 [.sl (tblRows l) false, .agg p.row] [] (.tup [.nilp, .int .i64 (planE l p)]) [] := by
  unfold planE at h ⊢
  by_cases h0 : validE l p = 0
  · rw [if_pos h0] at h ⊢
    by_cases h1 : (rowsL l p).length ≤ 4096
    · rw [if_pos h1] at h; exact absurd rfl h
    rw [if_neg h1]
    have h := h0
    have sp1 := validP_spec l p
    have sp2 := new_spec l p (pathOK_of h) (cntOK_of h)
    have sp3 := total_spec h
    have hpl := plan_rows l p
    have hlen := planN_len l p
    rw [h] at sp1
    rw [totN_eq] at sp3
    unfold planR at *
    refine gEn env Tryd.func16 fun Γ hN hK hML => ?_
    (refine gGo ?_; intros)
    (refine gPC (sp1) ?_; conv => whnf)
    (refine gGo ?_; intros)
    (refine gCA [] [(0, 15), (1, 90)] [] (sp2) ?_; conv => whnf)
    (refine gGs ?_; intros)
    refine W.leG (mp := [(15, 15)]) (bo := [90]) (st' := ⟨[(7, .bp 15 0)], [(15, [.rows 1 [[.sl (nodRows (planN l p)) false]] none])], [15]⟩)
      (LeG.mq (.cons 15 (b1 := .rows 1 [[.sl (nodRows (planN l p)) false]] none) rfl rfl (.rows _ _ _ (by repeat' (first | exact trivial | exact ⟨Lent.whole rfl rfl hpl.symm rfl (.inl rfl), rfl⟩ | apply And.intro))) rfl .nil)) ?_
    refine W.leG (mp := []) (bo := [15]) (st' := ⟨[(7, .ro [.sl (nodRows (planN l p)) false] 0)], [], []⟩)
      (LeG.mk' rfl rfl rfl ⟨⟨_, Lent.bp 15 0 1 [.sl (nodRows (planN l p)) false] none rfl rfl (Nat.zero_le _) (.inr rfl), rfl⟩, trivial⟩ .nil rfl rfl (by rw [hK]; rfl)) ?_
    (refine gGo ?_; intros)
    (refine gPC (sp3) ?_; conv => whnf)
    (refine gGo ?_; intros)
    (refine gM ?_; conv => whnf)
    exact ret0 rfl rfl rfl
  · rw [if_neg h0] at h ⊢
    have sp1 := validP_spec l p
    refine gEn env Tryd.func16 fun Γ hN hK hML => ?_
    (refine gGo ?_; intros)
    (refine gPC (sp1) ?_; conv => whnf)
    (refine gGo ?_; intros)
    (refine gM ?_; conv => whnf)
    exact ret0 rfl rfl rfl
theorem rowsJ_err {l : List Table} {p : Pth} (h : planE l p ≠ 0) : Spec Tryd.prog 9 [.sl (tblRows l) false, .agg p.row] [] (.tup [.sl [] false, .int .i64 (planE l p)]) [] := by
  have sp1 := plan_err h
  refine gEn env Tryd.func9 fun Γ hN hK hML => ?_
  (refine gGo ?_; intros)
  (refine gPC (sp1) ?_; conv => whnf)
  (refine gGo ?_; intros)
  (refine gM ?_; conv => whnf)
  exact ret0 rfl rfl rfl
theorem planE_rows (l : List Table) (p : Pth) : rowsE l p = if planE l p = 0 then (rowsL l p, 0) else ([], planE l p) := by
  unfold rowsE planE
  by_cases h0 : validE l p = 0
  · rw [if_pos h0, if_pos h0]
    by_cases h1 : (rowsL l p).length ≤ 4096
    · rw [if_pos h1, if_pos h1, if_pos rfl]
    · rw [if_neg h1, if_neg h1, if_neg (by decide)]
  · rw [if_neg h0, if_neg h0, if_neg h0]
theorem rowsJ_spec (l : List Table) (p : Pth) : Spec Tryd.prog 9 [.sl (tblRows l) false, .agg p.row] [] (.tup [.sl (rowRows (rowsE l p).1) false, .int .i64 (rowsE l p).2]) [] := by
  rw [planE_rows]
  by_cases h : planE l p = 0
  · rw [if_pos h]
    have hp := planE_ok h
    have sp1 := plan_ok h
    have sp2 := rowsW_spec hp.1 hp.2
    have hrl := rowRows_len (rowsL l p)
    refine gEn env Tryd.func9 fun Γ hN hK hML => ?_
    (refine gGo ?_; intros)
    (refine gPC (sp1) ?_; conv => whnf)
    (refine gGo ?_; intros)
    (refine gCA [] [(95, 95)] [] (sp2) ?_; conv => whnf)
    (refine gGo ?_; intros)
    refine W.leG (mp := []) (bo := [95]) (st' := ⟨[(4, .sl (rowRows (rowsL l p)) false), (5, .int .i64 0)], [], []⟩)
      (LeG.mk' rfl rfl rfl ⟨⟨_, Lent.whole rfl rfl rfl rfl (.inl rfl), rfl⟩, ⟨_, .refl _, rfl⟩, trivial⟩ .nil rfl rfl (by rw [hK]; rfl)) ?_
    (refine gM ?_; conv => whnf)
    exact ret0 rfl rfl rfl
  · rw [if_neg h]
    exact rowsJ_err h
end Go.Sx.Sp
namespace Go.Sx.Sp
open Go Go.Sx Go.Proofs
attribute [local irreducible] GoodW famL
def blkC (f : Nat → Nat → List Cell) (k : Nat) (t : Table) : List Column := t.cols.mapIdx fun q c => ⟨c.name, f k q⟩
theorem blkC_len (f : Nat → Nat → List Cell) (k : Nat) (t : Table) : (blkC f k t).length = t.cols.length := by simp [blkC]
def allF (f : Nat → Nat → List Cell) : Nat → List Table → List Column
  | _, [] => []
  | k, t :: ts => blkC f k t ++ allF f (k + 1) ts
def allC (f : Nat → Nat → List Cell) (ts : List Table) : List Column := allF f 0 ts
def atN (ts : List Table) (i : Nat) : Nat := ((ts.take i).map fun t => t.cols.length).sum
theorem atN_succ {ts : List Table} {i : Nat} {t : Table} (h : ts[i]? = some t) : atN ts (i + 1) = atN ts i + t.cols.length := by
  obtain ⟨h1, h2⟩ := List.getElem?_eq_some_iff.1 h
  unfold atN
  rw [List.take_succ_eq_append_getElem h1, List.map_append, List.sum_append, h2]
  simp
theorem atN_le (ts : List Table) (i : Nat) : atN ts i ≤ atN ts ts.length := by
  unfold atN
  rw [List.take_length]
  induction ts generalizing i with
  | nil => simp
  | cons t ts ih =>
    cases i with
    | zero => simp
    | succ i => simp only [List.take_succ_cons, List.map_cons, List.sum_cons]; have := ih i; omega
theorem allF_len (f : Nat → Nat → List Cell) : ∀ (ts : List Table) (k : Nat), (allF f k ts).length = atN ts ts.length
  | [], _ => rfl
  | t :: ts, k => by
    have ih := allF_len f ts (k + 1)
    unfold atN at ih ⊢
    simp only [allF, List.length_append, blkC_len, ih]
    simp
theorem allC_len (f : Nat → Nat → List Cell) (ts : List Table) : (allC f ts).length = atN ts ts.length := allF_len f ts 0
theorem allF_congr {f g : Nat → Nat → List Cell} : ∀ (ts : List Table) (k : Nat), (∀ (i : Nat) t, ts[i]? = some t → ∀ q, q < t.cols.length → f (k + i) q = g (k + i) q) → allF f k ts = allF g k ts
  | [], _, _ => rfl
  | t :: ts, k, h => by
    simp only [allF]
    congr 1
    · unfold blkC
      refine List.ext_getElem? fun q => ?_
      rw [List.getElem?_mapIdx, List.getElem?_mapIdx]
      cases hq : t.cols[q]? with
      | none => rfl
      | some c =>
        have := h 0 t rfl q (List.getElem?_eq_some_iff.1 hq).1
        simp only [Nat.add_zero] at this
        simp [this]
    · refine allF_congr ts (k + 1) fun i t' hi q hq => ?_
      have := h (i + 1) t' hi q hq
      rwa [show k + (i + 1) = k + 1 + i by omega] at this
theorem allC_congr {f g : Nat → Nat → List Cell} {ts : List Table} (h : ∀ (i : Nat) t, ts[i]? = some t → ∀ q, q < t.cols.length → f i q = g i q) : allC f ts = allC g ts :=
  allF_congr ts 0 fun i t hi q hq => by rw [Nat.zero_add]; exact h i t hi q hq
theorem allF_mem {f : Nat → Nat → List Cell} : ∀ {ts : List Table} {k : Nat} {c : Column}, c ∈ allF f k ts → ∃ (i q : Nat) (t : Table), ts[i]? = some t ∧ q < t.cols.length ∧ c.cells = f (k + i) q
  | [], _, _, h => by cases h
  | t :: ts, k, c, h => by
    simp only [allF, List.mem_append] at h
    rcases h with h | h
    · unfold blkC at h
      obtain ⟨q, hq, rfl⟩ := List.mem_mapIdx.1 h
      exact ⟨0, q, t, rfl, hq, rfl⟩
    · obtain ⟨i, q, t', h1, h2, h3⟩ := allF_mem h
      exact ⟨i + 1, q, t', h1, h2, by rw [h3, show k + 1 + i = k + (i + 1) by omega]⟩
theorem putC_get (cols : List Column) (a : Nat) (t : Table) (row : Nat) : ∀ n i, (putC cols a t row n)[i]? = if a ≤ i ∧ i < a + n then cols[i]?.map fun x => { x with cells := x.cells ++ [cellT t (i - a) row] } else cols[i]?
  | 0, i => by
    rw [if_neg (by omega)]; rfl
  | n + 1, i => by
    have ih := putC_get cols a t row n i
    show (addC (putC cols a t row n) (a + n) (cellT t n row))[i]? = _
    unfold addC
    rw [List.getElem?_modify, ih]
    by_cases e : a + n = i
    · subst e
      rw [if_neg (by omega), if_pos (by omega)]
      have : a + n - a = n := by omega
      rw [this]
      cases cols[a + n]? <;> simp
    · by_cases h1 : a ≤ i ∧ i < a + n
      · rw [if_pos h1, if_pos (by omega)]
        cases cols[i]? <;> simp [e]
      · rw [if_neg h1, if_neg (by omega)]
        cases cols[i]? <;> simp [e]
theorem allF_get (f : Nat → Nat → List Cell) : ∀ (ts : List Table) (k : Nat) (i q : Nat) (t : Table), ts[i]? = some t → q < t.cols.length → (allF f k ts)[atN ts i + q]? = (t.cols[q]?).map fun c => ⟨c.name, f (k + i) q⟩
  | [], _, _, _, _, h, _ => by simp at h
  | t :: ts, k, 0, q, t', h, hq => by
    cases h
    show (blkC f k t ++ allF f (k + 1) ts)[0 + q]? = _
    rw [Nat.zero_add, List.getElem?_append_left (by rw [blkC_len]; exact hq)]
    unfold blkC
    rw [List.getElem?_mapIdx]; rfl
  | t :: ts, k, i + 1, q, t', h, hq => by
    have ih := allF_get f ts (k + 1) i q t' h hq
    have e : atN (t :: ts) (i + 1) = t.cols.length + atN ts i := by simp [atN]
    show (blkC f k t ++ allF f (k + 1) ts)[_]? = _
    rw [e, List.getElem?_append_right (by rw [blkC_len]; omega), blkC_len, show t.cols.length + atN ts i + q - t.cols.length = atN ts i + q by omega, ih, show k + 1 + i = k + (i + 1) by omega]
theorem atN_find : ∀ (ts : List Table) (j : Nat), j < atN ts ts.length → ∃ (i q : Nat) (t : Table), ts[i]? = some t ∧ q < t.cols.length ∧ j = atN ts i + q
  | [], j, h => by simp [atN] at h
  | t :: ts, j, h => by
    by_cases h1 : j < t.cols.length
    · exact ⟨0, j, t, rfl, h1, by simp [atN]⟩
    · have e : atN (t :: ts) (t :: ts).length = t.cols.length + atN ts ts.length := by simp [atN]
      rw [e] at h
      obtain ⟨i, q, t', g1, g2, g3⟩ := atN_find ts (j - t.cols.length) (by omega)
      refine ⟨i + 1, q, t', g1, g2, ?_⟩
      have e2 : atN (t :: ts) (i + 1) = t.cols.length + atN ts i := by simp [atN]
      rw [e2]; omega
theorem atN_mono (ts : List Table) {i j : Nat} (h : i ≤ j) : atN ts i ≤ atN ts j := by
  unfold atN
  obtain ⟨d, rfl⟩ : ∃ d, j = i + d := ⟨j - i, by omega⟩
  rw [List.take_add, List.map_append, List.sum_append]
  omega
theorem put_all {f : Nat → Nat → List Cell} {ts : List Table} {i : Nat} {t : Table} (row : Nat) (h : ts[i]? = some t) :
    putC (allC f ts) (atN ts i) t row t.cols.length = allC (fun k q => if k = i then f k q ++ [cellT t q row] else f k q) ts := by
  refine List.ext_getElem? fun j => ?_
  rw [putC_get]
  by_cases hj : j < atN ts ts.length
  · obtain ⟨i', q, t', g1, g2, rfl⟩ := atN_find ts j hj
    unfold allC
    rw [allF_get f ts 0 i' q t' g1 g2, allF_get _ ts 0 i' q t' g1 g2]
    simp only [Nat.zero_add]
    by_cases e : i' = i
    · subst e
      rw [g1] at h
      cases h
      rw [if_pos (by omega), if_pos rfl, show atN ts i' + q - atN ts i' = q by omega]
      rw [Option.map_map]; rfl
    · rw [if_neg e, if_neg]
      intro hr
      rcases Nat.lt_or_gt_of_ne e with h1 | h1
      · have := atN_mono ts (show i' + 1 ≤ i by omega)
        rw [atN_succ g1] at this
        omega
      · have := atN_mono ts (show i + 1 ≤ i' by omega)
        rw [atN_succ h] at this
        omega
  · have h1 : (allC f ts)[j]? = none := List.getElem?_eq_none (by rw [allC_len]; omega)
    have h2 : (allC (fun k q => if k = i then f k q ++ [cellT t q row] else f k q) ts)[j]? = none := List.getElem?_eq_none (by rw [allC_len]; omega)
    rw [h1, h2]
    split <;> rfl
def togF (ts : List Table) (R : List (List Nat)) (k q : Nat) : List Cell := R.map fun r => cellT (ts.getD k Table.zero) q (r.getD k 0)
def togC (ts : List Table) (R : List (List Nat)) : List Column := allC (togF ts R) ts
def togT (ts : List Table) (R : List (List Nat)) : Table := ⟨(ts.getD 0 Table.zero).id, (ts.getD 0 Table.zero).name, togC ts R⟩
def nilW (cs : List Column) : List (List V) := cs.map fun c => [.str c.name, .nils]
theorem nilW_len (cs : List Column) : (nilW cs).length = cs.length := by simp [nilW]
def bare (cs : List Column) : List Column := cs.map fun c => ⟨c.name, []⟩
theorem allF_bare : ∀ (ts : List Table) (k : Nat), allF (fun _ _ => []) k ts = bare (ts.flatMap Table.cols)
  | [], _ => rfl
  | t :: ts, k => by
    have ih := allF_bare ts (k + 1)
    simp only [allF, ih, List.flatMap_cons, bare, List.map_append]
    congr 1
    unfold blkC
    refine List.ext_getElem? fun q => ?_
    rw [List.getElem?_mapIdx, List.getElem?_map]
theorem togC_nil (ts : List Table) : togC ts [] = bare (ts.flatMap Table.cols) := allF_bare ts 0
theorem togC_len (ts : List Table) (R : List (List Nat)) : (togC ts R).length = atN ts ts.length := allC_len _ _
end Go.Sx.Sp
