/- Rows and counts; lists of numbers by texts. -/
import Derived.Test.YtjklpocgdppmdaaDoorJSix
import Derived.Test.YtjklpocgdppmdaaDoorSxFive
import Derived.Test.YtjklpocgdppmdaaDoorSxFour
set_option linter.unusedVariables false
set_option linter.unusedSimpArgs false
namespace Go.Sx.Sp
open Go Go.Sx Go.Proofs
attribute [local irreducible] GoodW famL
section
variable {l : List Table} {p : Pth}
end
end Go.Sx.Sp
namespace Go.Sx.Sp
open Go Go.Sx Go.Proofs
attribute [local irreducible] GoodW famL
section
variable {l : List Table} {p : Pth}
end
end Go.Sx.Sp
namespace Go.Sx.Sp
open Go Go.Sx Go.Proofs
attribute [local irreducible] GoodW famL
end Go.Sx.Sp
namespace Go.Sx.Sp
open Go Go.Sx Go.Proofs
attribute [local irreducible] GoodW famL
section
variable {l : List Table} {p : Pth}
end
end Go.Sx.Sp
namespace Go.Sx.Sp
open Go Go.Sx Go.Proofs
attribute [local irreducible] GoodW famL
theorem filter_flat {α β : Type} (P : α → Bool) (f : α → List β) : ∀ l : List α, (l.filter P).flatMap f = l.flatMap fun y => if P y = true then f y else []
  | [] => rfl
  | x :: l => by
    rw [List.flatMap_cons, ← filter_flat P f l]
    cases h : P x with
    | true => rw [List.filter_cons_of_pos h, List.flatMap_cons]; rfl
    | false => rw [List.filter_cons_of_neg (by simp [h])]; simp
theorem flat_congr {α β : Type} {f g : α → List β} {l : List α} (h : ∀ x ∈ l, f x = g x) : l.flatMap f = l.flatMap g := by
  induction l with
  | nil => rfl
  | cons x l ih => rw [List.flatMap_cons, List.flatMap_cons, h x (by simp), ih fun y hy => h y (by simp [hy])]
section
variable (l : List Table) (p : Pth)
def onB (i : Nat) (s : Str) (y : Nat) : Bool := !(cellT (tabN l p i) (ownN l p i) y).null && (decide ((cellT (tabN l p i) (ownN l p i) y).text = s) && decide (0 < cntI l p i y))
def byL (i : Nat) (s : Str) (n : Nat) : List Nat := (List.range n).filter (onB l p i s)
def parC (hv : List Nat) (i : Nat) : Cell := cellT (tabN l p (parI p (i - 1))) (frN l p i) (hv.getD (parI p (i - 1)) 0)
def visL : Nat → List Nat → List (List Nat)
  | 0, hv => [hv]
  | k + 1, hv => (byL l p hv.length (parC l p hv hv.length).text (rowsN (tabN l p hv.length))).flatMap fun y => visL k (hv ++ [y])
def rowsW : List (List Nat) := ((List.range (rowsN (tabN l p 0))).filter fun r => decide (0 < cntI l p 0 r)).flatMap fun r => visL l p p.steps.length [r]
end
section
variable {l : List Table} {p : Pth}
theorem combK_snoc {hv : List Nat} {y j : Nat} (hj : hv.length = j + 1) (hjs : j < p.steps.length) (hc : CombK l p hv.length (fun i => hv.getD i 0)) (hy : y < rowsN (tabN l p hv.length)) (hf : stepFits l p j (hv.getD (parI p j) 0) y = true) : CombK l p (hv ++ [y]).length (fun i => (hv ++ [y]).getD i 0) := by
  have hpar := parI_le p (i := j) (by omega)
  rw [List.length_append, List.length_singleton]
  refine ⟨fun i hi => ?_, fun q hq => ?_⟩
  · by_cases e : i = hv.length
    · subst e; simp only [getD_last]; exact hy
    · simp only [getD_app (show i < hv.length by omega)]
      exact hc.lt i (by omega)
  · have hp := parI_le p (i := q) (by omega)
    by_cases e : q + 1 = hv.length
    · obtain rfl : q = j := by omega
      simp only [e, getD_last, getD_app (show parI p q < hv.length by omega)]
      exact hf
    · simp only [getD_app (show q + 1 < hv.length by omega), getD_app (show parI p q < hv.length by omega)]
      exact hc.fit q (by omega)
theorem ext_none (h : validE l p = 0) {k : Nat} {hv : List Nat} (hne : hv ≠ []) (hl : hv.length + k = p.steps.length + 1) (hc : CombK l p hv.length (fun i => hv.getD i 0)) {i : Nat} (hi : i < hv.length) (h0 : cntI l p i (hv.getD i 0) = 0) : ext l p k hv = [] := by
  cases he : ext l p k hv with
  | nil => rfl
  | cons x r =>
    exfalso
    obtain ⟨g1, g2, g3⟩ := ext_mem k hv x hne hl hc (by rw [he]; simp)
    have := comb_cnt' h g2 (i := i) (by omega)
    simp only [g3 i hi] at this
    exact this h0
theorem vis_eq (h : validE l p = 0) : ∀ (k : Nat) (hv : List Nat), hv ≠ [] → hv.length + k = p.steps.length + 1 → CombK l p hv.length (fun i => hv.getD i 0) → (∀ i, i < hv.length → cntI l p i (hv.getD i 0) ≠ 0) → visL l p k hv = ext l p k hv
  | 0, hv, _, _, _, _ => rfl
  | k + 1, hv, hne, hl, hc, hn => by
    have hpos : 0 < hv.length := List.length_pos_iff.2 hne
    obtain ⟨j, hj⟩ : ∃ j, hv.length = j + 1 := ⟨hv.length - 1, by omega⟩
    have hpar := parI_le p (i := j) (by omega)
    show (byL l p hv.length (parC l p hv hv.length).text (rowsN (tabN l p hv.length))).flatMap (fun y => visL l p k (hv ++ [y])) = extN l p (ext l p k) hv (rowsN (tabN l p hv.length))
    unfold byL extN
    rw [filter_flat]
    refine flat_congr fun y hy => ?_
    have hy := List.mem_range.1 hy
    unfold extF
    rw [show hv.length - 1 = j by omega]
    have hpn := hn (parI p j) (by omega)
    have hpl := hc.lt (parI p j) (by omega)
    have hnn : (parC l p hv hv.length).null = false := by
      cases hb : (parC l p hv hv.length).null with
      | false => rfl
      | true =>
        exfalso
        have h1 := (cntI_ne (by omega) hpl).1 hpn j (by omega) rfl
        refine h1 (fitS_null ?_)
        have h2 := hb
        unfold parC at h2
        rw [show hv.length - 1 = j by omega, hj] at h2
        exact h2
    have hst : stepFits l p j (hv.getD (parI p j) 0) y = fitC (parC l p hv hv.length) (cellT (tabN l p hv.length) (ownN l p hv.length) y) := by
      unfold stepFits parC
      rw [show hv.length - 1 = j by omega, hj]
    have hcn := cntI_nonneg h (i := hv.length) (by omega) y
    by_cases hf : stepFits l p j (hv.getD (parI p j) 0) y = true
    · rw [if_pos hf]
      have hc2 := combK_snoc hj (by omega) hc hy hf
      have hl2 : (hv ++ [y]).length + k = p.steps.length + 1 := by rw [List.length_append, List.length_singleton]; omega
      rw [hst] at hf
      unfold fitC at hf
      simp only [Bool.and_eq_true, Bool.not_eq_true', decide_eq_true_eq] at hf
      by_cases h0 : cntI l p hv.length y = 0
      · rw [if_neg (by unfold onB; rw [decide_eq_false (show ¬ 0 < cntI l p hv.length y by omega)]; simp)]
        exact (ext_none h (by simp) hl2 hc2 (i := hv.length) (by simp) (by rw [getD_last]; exact h0)).symm
      · rw [if_pos (by unfold onB; rw [hf.2.1, decide_eq_true hf.2.2.symm, decide_eq_true (show 0 < cntI l p hv.length y by omega)]; rfl)]
        refine vis_eq h k (hv ++ [y]) (by simp) hl2 hc2 fun i hi => ?_
        by_cases e : i = hv.length
        · subst e; rw [getD_last]; exact h0
        · have hi2 : i < hv.length := by
            rw [List.length_append, List.length_singleton] at hi; omega
          rw [getD_app hi2]; exact hn i hi2
    · rw [if_neg hf, if_neg]
      intro ho
      apply hf
      rw [hst]
      unfold onB at ho
      simp only [Bool.and_eq_true, Bool.not_eq_true', decide_eq_true_eq] at ho
      unfold fitC
      rw [hnn, ho.1, ho.2.1]
      simp
theorem rowsW_eq (h : validE l p = 0) : rowsW l p = rowsL l p := by
  unfold rowsW rowsL rowsOfP
  rw [filter_flat]
  refine flat_congr fun r hr => ?_
  have hr := List.mem_range.1 hr
  have hcn := cntI_nonneg h (i := 0) (by omega) r
  have hc : CombK l p ([r] : List Nat).length (fun i => ([r] : List Nat).getD i 0) := ⟨fun i hi => (by
    have e : i = 0 := (by rw [List.length_singleton] at hi; omega)
    subst e; exact hr), fun q hq => (by rw [List.length_singleton] at hq; omega)⟩
  by_cases h0 : cntI l p 0 r = 0
  · rw [if_neg (by simp [h0])]
    exact (ext_none h (k := p.steps.length) (by simp) (by rw [List.length_singleton]; omega) hc (i := 0) (by simp) h0).symm
  · rw [if_pos (by simp; omega)]
    exact vis_eq h _ _ (by simp) (by rw [List.length_singleton]; omega) hc fun i hi => (by
      have e : i = 0 := (by rw [List.length_singleton] at hi; omega)
      subst e; exact h0)
end
end Go.Sx.Sp
namespace Go.Sx.Sp
open Go Go.Sx Go.Proofs
attribute [local irreducible] GoodW famL
abbrev Bun := List (Str × List Nat)
def lookB (T : Bun) (s : Str) : List Nat := match ixS s (keysT T) with | some j => (T.getD j ([], [])).2 | none => []
def addB (T : Bun) (s : Str) (i : Nat) : Bun := match ixS s (keysT T) with | some j => T.set j (s, lookB T s ++ [i]) | none => T ++ [(s, [i])]
def ownV (F k : Nat) : Bun → List (Str × V)
  | [] => []
  | p :: T => (p.1, .osl F (k + 2) 0 p.2.length p.2.length) :: ownV F (k + 1) T
def ownE (F : Nat) (T : Bun) : List (Nat × V × V) := tabE 0 (ownV F 0 T)
def datE (T : Bun) : List (Nat × V × V) := tabE 0 (T.map fun p => (p.1, .sl (natRows p.2) false))
def lisB (L : List Nat) : Blk := .rows 1 (natRows L) (some [])
def ownF (T : Bun) : List Blk := lisB [] :: lisB [] :: T.map fun p => lisB p.2
theorem ownF_fam (T : Bun) : ∀ b ∈ ownF T, b.famB = true := fun b hb => by
  unfold ownF at hb
  rcases List.mem_cons.1 hb with rfl | hb
  · rfl
  rcases List.mem_cons.1 hb with rfl | hb
  · rfl
  obtain ⟨x, _, rfl⟩ := List.mem_map.1 hb
  rfl
theorem ownF_len (T : Bun) : (ownF T).length = T.length + 2 := by simp [ownF]
theorem ownF_get {T : Bun} {j : Nat} {q : Str × List Nat} (h : T[j]? = some q) : (ownF T)[j + 2]? = some (lisB q.2) := by
  unfold ownF
  rw [List.getElem?_cons_succ, List.getElem?_cons_succ, List.getElem?_map, h]; rfl
theorem ownV_len (F : Nat) : ∀ (T : Bun) (k : Nat), (ownV F k T).length = T.length
  | [], _ => rfl
  | p :: T, k => by simp [ownV, ownV_len F T]
theorem ownV_keys (F : Nat) : ∀ (T : Bun) (k : Nat), keysT (ownV F k T) = keysT T
  | [], _ => rfl
  | p :: T, k => by
    have := ownV_keys F T (k + 1)
    simp only [keysT] at this ⊢
    simp [ownV, this]
theorem ownV_get (F : Nat) : ∀ (T : Bun) (k j : Nat), (ownV F k T)[j]? = (T[j]?).map fun p => (p.1, .osl F (k + j + 2) 0 p.2.length p.2.length)
  | [], k, j => by simp [ownV]
  | p :: T, k, 0 => by simp [ownV]
  | p :: T, k, j + 1 => by
    simp only [ownV, List.getElem?_cons_succ]
    rw [ownV_get F T (k + 1) j, show k + 1 + j = k + (j + 1) by omega]
theorem ownE_len (F : Nat) (T : Bun) : (ownE F T).length = T.length := by simp [ownE, tabE_len, ownV_len]
theorem ixS_get {α : Type} {T : List (Str × α)} {s : Str} {j : Nat} (h : ixS s (keysT T) = some j) : ∃ v, T[j]? = some (s, v) := by
  have h1 := ixS_some h
  unfold keysT at h1
  rw [List.getElem?_map, Option.map_eq_some_iff] at h1
  obtain ⟨⟨a, v⟩, h2, h3⟩ := h1
  simp only at h3
  subst h3
  exact ⟨v, h2⟩
theorem lookB_at {T : Bun} {s : Str} {j : Nat} (h : ixS s (keysT T) = some j) : T[j]? = some (s, lookB T s) := by
  obtain ⟨v, hv⟩ := ixS_get h
  unfold lookB
  rw [h, hv]
  simp [List.getD_eq_getElem?_getD, hv]
theorem ownE_at (F : Nat) (T : Bun) (s : Str) : mapAt (.str s) (ownE F T) = some ((ixS s (keysT T)).map fun j => (j, j, .osl F (j + 2) 0 (lookB T s).length (lookB T s).length)) := by
  unfold ownE
  rw [tabE_at, ownV_keys]
  cases h : ixS s (keysT T) with
  | none => rfl
  | some j =>
    have h1 := lookB_at h
    have h2 := ownV_get F T 0 j
    rw [h1] at h2
    simp only [Option.map_some] at h2 ⊢
    rw [List.getD_eq_getElem?_getD, h2]
    simp
theorem addB_some {T : Bun} {s : Str} {i j : Nat} (h : ixS s (keysT T) = some j) : addB T s i = T.set j (s, lookB T s ++ [i]) := by unfold addB; rw [h]
theorem addB_none {T : Bun} {s : Str} {i : Nat} (h : ixS s (keysT T) = none) : addB T s i = T ++ [(s, [i])] := by unfold addB; rw [h]
theorem addB_len (T : Bun) (s : Str) (i : Nat) : (addB T s i).length ≤ T.length + 1 := by
  unfold addB
  split <;> simp
theorem ownE_set {F : Nat} {T : Bun} {s : Str} {i j n : Nat} (h : ixS s (keysT T) = some j) (hn : n = (lookB T s).length + 1) : (ownE F T).set j (j, .str s, .osl F (j + 2) 0 n n) = ownE F (addB T s i) := by
  rw [addB_some h]
  apply List.ext_getElem?
  intro k
  have hj := ixS_lt h
  unfold ownE
  rw [List.getElem?_set, tabE_len, ownV_len, tabE_get, tabE_get, ownV_get, ownV_get, List.getElem?_set]
  by_cases e : j = k
  · subst e
    simp [hj, hn]
  · simp [e]
theorem ownF_set {T : Bun} {s : Str} {i j : Nat} (h : ixS s (keysT T) = some j) : (ownF T).set (j + 2) (lisB (lookB T s ++ [i])) = ownF (addB T s i) := by
  rw [addB_some h]
  unfold ownF
  rw [List.map_set]
  rfl
theorem ownF_new {T : Bun} {s : Str} {i : Nat} (h : ixS s (keysT T) = none) : ownF T ++ [lisB [i]] = ownF (addB T s i) := by
  rw [addB_none h]
  simp [ownF]
theorem ownE_gat {T : Bun} {s : Str} {i d F c c1 : Nat} (hdF : d ≠ F) (h : ixS s (keysT T) = none) (hc : c = T.length) (ks : Option (List Nat)) : BGat d F (T.length + 2) (.map (ownE F T ++ [(c, .str s, .osl d 0 0 1 1)]) c1 ks) (.map (ownE F (addB T s i)) c1 (some [F])) := by
  subst hc
  have hl : (ownE F (addB T s i)).length = T.length + 1 := by rw [ownE_len, addB_none h]; simp
  refine .map _ _ _ _ _ (by rw [hl, List.length_append, ownE_len]; rfl) fun j b k v1 hj => ?_
  have hjl : j < T.length + 1 := by
    have := (List.getElem?_eq_some_iff.1 hj).1
    rwa [hl] at this
  unfold ownE at hj
  rw [tabE_get, ownV_get, addB_none h] at hj
  by_cases e : j = T.length
  · subst e
    rw [List.getElem?_append_right (Nat.le_refl _), Nat.sub_self] at hj
    simp only [List.getElem?_cons_zero, Option.map_some, Nat.zero_add, Option.some.injEq, Prod.mk.injEq] at hj
    obtain ⟨rfl, rfl, rfl⟩ := hj
    refine ⟨.osl d 0 0 1 1, ?_, ?_, fun l hl s hs => ?_⟩
    · rw [List.getElem?_append_right (by rw [ownE_len]; exact Nat.le_refl _), ownE_len, Nat.sub_self]; rfl
    · simp [V.gat]
    · cases hl; simpa [V.sites] using hs
  · have hj2 : j < T.length := by omega
    rw [List.getElem?_append_left hj2, List.getElem?_eq_getElem hj2] at hj
    simp only [Option.map_some, Nat.zero_add, Option.some.injEq, Prod.mk.injEq] at hj
    obtain ⟨rfl, rfl, rfl⟩ := hj
    refine ⟨.osl F (j + 2) 0 T[j].2.length T[j].2.length, ?_, ?_, fun l hl s hs => ?_⟩
    · rw [List.getElem?_append_left (by rw [ownE_len]; exact hj2)]
      unfold ownE
      rw [tabE_get, ownV_get, List.getElem?_eq_getElem hj2]
      simp
    · simp [V.gat, hj2, Ne.symm hdF]
    · cases hl; simpa [V.sites] using hs
theorem ownE_sites {F : Nat} {T : Bun} : ∀ (i : Nat) b key v, (ownE F T)[i]? = some (b, key, v) → ∀ s ∈ v.sites, s ∈ [F] := fun i b key v hi s hs => by
  unfold ownE at hi
  rw [tabE_get, ownV_get] at hi
  cases hT : T[i]? with
  | none => rw [hT] at hi; simp at hi
  | some q =>
    rw [hT] at hi
    simp only [Option.map_some, Option.some.injEq, Prod.mk.injEq] at hi
    obtain ⟨rfl, rfl, rfl⟩ := hi
    simpa [V.sites] using hs
theorem datE_look (T : Bun) (s : Str) : ∃ r, mapAt (.str s) (datE T) = some r ∧ ((ixS s (keysT T) = none ∧ r = none) ∨ ∃ j, ixS s (keysT T) = some j ∧ r = some (j, j, .sl (natRows (lookB T s)) false)) := by
  unfold datE
  refine ⟨_, tabE_at s _ 0, ?_⟩
  have hk : keysT (T.map fun p => (p.1, V.sl (natRows p.2) false)) = keysT T := by simp [keysT]
  rw [hk]
  cases h : ixS s (keysT T) with
  | none => exact .inl ⟨rfl, rfl⟩
  | some j =>
    refine .inr ⟨j, rfl, ?_⟩
    have h1 := lookB_at h
    simp [List.getD_eq_getElem?_getD, h1]
theorem lookB_none {T : Bun} {s : Str} (h : ixS s (keysT T) = none) : lookB T s = [] := by unfold lookB; rw [h]
theorem datE_lent {H : Nat → List Blk} {F c : Nat} {T : Bun} {bo : List Nat} {ks : Option (List Nat)} (hF : H F = ownF T) (hb : memB F bo = true) : BLent H bo (.map (ownE F T) c ks) (.map (datE T) c (some [])) := by
  refine .mapF _ _ _ _ (by simp [datE, ownE_len, tabE_len]) fun j b k v1 hj => ?_
  unfold datE at hj
  rw [tabE_get, List.getElem?_map] at hj
  cases hT : T[j]? with
  | none => rw [hT] at hj; simp at hj
  | some q =>
    rw [hT] at hj
    simp only [Option.map_some, Nat.zero_add, Option.some.injEq, Prod.mk.injEq] at hj
    obtain ⟨rfl, rfl, rfl⟩ := hj
    refine ⟨.osl F (j + 2) 0 q.2.length q.2.length, ?_, ?_, by simp [V.sites]⟩
    · unfold ownE
      rw [tabE_get, ownV_get, hT]
      simp
    · have h1 : (H F)[j + 2]? = some (.rows 1 (natRows q.2) (some [])) := by
        rw [hF]; exact ownF_get hT
      have := Lent.oslF (H := H) (bo := bo) F (j + 2) 0 q.2.length q.2.length 1 (natRows q.2) (some []) hb h1 (natRows_len q.2).symm (.inl rfl)
      rw [List.drop_zero, List.take_of_length_le (by rw [natRows_len]; exact Nat.le_refl _)] at this
      exact this
theorem datE_pure (T : Bun) (ks : Option (List Nat)) : pureEs (datE T) ks := .inr fun p hp => by
  obtain ⟨j, hj⟩ := List.getElem?_of_mem hp
  unfold datE at hj
  rw [tabE_get, List.getElem?_map] at hj
  cases hT : T[j]? with
  | none => rw [hT] at hj; simp at hj
  | some q => rw [hT] at hj; simp at hj; rw [← hj]; simp [V.sites]
theorem lookB_add (T : Bun) (s u : Str) (i : Nat) : lookB (addB T s i) u = if u = s then lookB T s ++ [i] else lookB T u := by
  cases h : ixS s (keysT T) with
  | none =>
    rw [addB_none h, lookB_none h]
    have hs := ixS_none.1 h
    unfold lookB
    have hk : keysT (T ++ [(s, [i])]) = keysT T ++ [s] := by simp [keysT]
    rw [hk]
    cases hu : ixS u (keysT T) with
    | none =>
      have hu2 := ixS_none.1 hu
      by_cases e : u = s
      · subst e
        have : ixS u (keysT T ++ [u]) = some T.length := by
          have hm : ∀ l : List Str, u ∉ l → ixS u (l ++ [u]) = some l.length := fun l => by
            induction l with
            | nil => intro _; simp [ixS]
            | cons x l ih =>
              intro hn
              have h1 : ¬ u = x := fun e => hn (by simp [e])
              simp [ixS, h1, ih fun hm => hn (by simp [hm])]
          rw [hm _ hu2]; simp [keysT]
        rw [this, if_pos rfl]
        simp
      · have : ixS u (keysT T ++ [s]) = none := ixS_none.2 (by simp [hu2, e])
        rw [this, if_neg e]
    | some j =>
      have hj := ixS_lt hu
      have hne : ¬ u = s := fun e => by subst e; rw [h] at hu; cases hu
      have : ixS u (keysT T ++ [s]) = some j := by
        have hm : ∀ (l : List Str) (j : Nat), ixS u l = some j → ixS u (l ++ [s]) = some j := fun l => by
          induction l with
          | nil => intro j hj; simp [ixS] at hj
          | cons x l ih =>
            intro j hj
            by_cases e : u = x
            · simp [ixS, e] at hj ⊢; exact hj
            · simp only [ixS, e, if_false, Option.map_eq_some_iff, List.cons_append] at hj ⊢
              obtain ⟨q, hq, rfl⟩ := hj
              exact ⟨q, ih q hq, rfl⟩
        exact hm _ _ hu
      rw [this, if_neg hne]
      simp [List.getD_eq_getElem?_getD, List.getElem?_append_left hj]
  | some j =>
    rw [addB_some h]
    have hj := ixS_lt h
    have hg := lookB_at h
    generalize lookB T s = L at *
    have hk : keysT (T.set j (s, L ++ [i])) = keysT T := by
      unfold keysT
      rw [List.map_set]
      apply List.ext_getElem?
      intro k
      rw [List.getElem?_set]
      by_cases e : j = k
      · subst e
        rw [if_pos rfl, if_pos (by rw [List.length_map]; exact hj), List.getElem?_map, hg]; rfl
      · rw [if_neg e]
    unfold lookB
    rw [hk]
    by_cases e : u = s
    · subst e
      rw [h, if_pos rfl]
      simp [List.getD_eq_getElem?_getD, hj]
    · rw [if_neg e]
      cases hu : ixS u (keysT T) with
      | none => rfl
      | some q =>
        have hne : j ≠ q := fun e2 => by
          subst e2
          have h1 := ixS_some h
          have h2 := ixS_some hu
          rw [h1] at h2
          cases h2
          exact e rfl
        simp [List.getD_eq_getElem?_getD, List.getElem?_set, hne]
def bunS (P : Nat → Bool) (tx : Nat → Str) : Nat → Bun
  | 0 => []
  | n + 1 => if P n = true then addB (bunS P tx n) (tx n) n else bunS P tx n
theorem bunS_look (P : Nat → Bool) (tx : Nat → Str) (u : Str) : ∀ n, lookB (bunS P tx n) u = (List.range n).filter fun y => P y && decide (tx y = u)
  | 0 => rfl
  | n + 1 => by
    have ih := bunS_look P tx u n
    have hs : bunS P tx (n + 1) = if P n = true then addB (bunS P tx n) (tx n) n else bunS P tx n := rfl
    rw [List.range_succ, List.filter_append, ← ih, hs]
    cases h : P n with
    | false => simp [h]
    | true =>
      rw [if_pos rfl, lookB_add]
      by_cases e : tx n = u
      · subst e; simp [h]
      · rw [if_neg (Ne.symm e)]; simp [h, e]
theorem bunS_len (P : Nat → Bool) (tx : Nat → Str) : ∀ n, (bunS P tx n).length ≤ n
  | 0 => Nat.le_refl _
  | n + 1 => by
    have ih := bunS_len P tx n
    have hs : bunS P tx (n + 1) = if P n = true then addB (bunS P tx n) (tx n) n else bunS P tx n := rfl
    rw [hs]
    split
    · have := addB_len (bunS P tx n) (tx n) n; omega
    · omega
theorem lookB_le (P : Nat → Bool) (tx : Nat → Str) (u : Str) (n : Nat) : (lookB (bunS P tx n) u).length ≤ n := by
  rw [bunS_look]
  refine Nat.le_trans (List.length_filter_le _ _) ?_
  rw [List.length_range]; exact Nat.le_refl _
end Go.Sx.Sp
namespace Go.Sx.Sp
open Go Go.Sx Go.Proofs
attribute [local irreducible] GoodW famL
def cellD (cs : List Cell) (y : Nat) : Cell := cs.getD y ⟨false, []⟩
def bunC (cs : List Cell) (n : Nat) : Bun := bunS (fun y => !(cellD cs y).null) (fun y => (cellD cs y).text) n
set_option maxHeartbeats 4000000 in
theorem rowsOf_spec (c : Column) (hc : c.cells.length ≤ 1000000) : Spec Tryd.prog 19 [.agg c.row] [] (.dmap (mkD (datE (bunC c.cells c.cells.length)))) [] := by
  have hcl := cellRows_len c.cells
  refine gEn env Tryd.func19 fun Γ hN hK hML => ?_
  (refine gGo ?_; intros)
  refine W.ref (Ref.reserve 200 2 1 rfl) ?_
  refine W.leG (mp := [(6, 6), (200, 200)]) (bo := []) (st' := ⟨[(3, .omap 6 0), (8, .sl (cellRows c.cells) false), (9, .int .i64 (cellRows c.cells).length), (10, .int .i64 0)], [(6, [.map [] 0 (some [])]), (200, ownF [])], [6, 200]⟩)
    (LeG.mq (.ci 6 (.fam 200 rfl (by show _ = famL 2 _; unfold famL; rfl) (ownF_fam _) .nil))) ?_
  refine W.ref (Ref.rekm 6 [200] rfl (fun i b k v hi => by simp at hi) (fun q hq => by simp at hq; subst hq; rfl)) ?_
  refine W.loopG (fun m st => ∃ j : Nat, j ≤ c.cells.length ∧ m = c.cells.length - j ∧ st = ⟨[(3, .omap 6 0), (8, .sl (cellRows c.cells) false), (9, .int .i64 (cellRows c.cells).length), (10, .int .i64 j)], [(6, [.map (ownE 200 (bunC c.cells j)) (bunC c.cells j).length (some [200])]), (200, ownF (bunC c.cells j))], [6, 200]⟩)
    c.cells.length _ ⟨0, by omega, by omega, rfl⟩ ⟨[(6, 6), (200, 200)], [], [], LeG.mq (.ci 6 (.fam 200 rfl rfl (ownF_fam _) .nil))⟩ ?_
  rintro m st ⟨j, hj, rfl, rfl⟩
  (refine gGo ?_; intros)
  refine boolRes_split (fun hb => ?_) (fun hb => ?_) <;> conv => whnf
  · have hlt : j < c.cells.length := by omega
    have hg := cellRows_get hlt
    have hcD : cellD c.cells j = c.cells[j] := by simp [cellD, hlt]
    have hsn : bunC c.cells (j + 1) = if (!(c.cells[j]).null) = true then addB (bunC c.cells j) (c.cells[j]).text j else bunC c.cells j := by
      show (if (!(cellD c.cells j).null) = true then addB (bunC c.cells j) (cellD c.cells j).text j else bunC c.cells j) = _
      rw [hcD]
    have hlk := lookB_le (fun y => !(cellD c.cells y).null) (fun y => (cellD c.cells y).text) (c.cells[j]).text j
    change (lookB (bunC c.cells j) (c.cells[j]).text).length ≤ j at hlk
    generalize bunC c.cells j = T at *
    generalize c.cells[j] = x at *
    (refine gGo ?_; intros)
    refine rowAt_of (by simpa using hg) ?_
    conv => whnf
    (refine gGo ?_; intros)
    cases hnull : x.null with
    | true =>
      rw [if_neg (by rw [hnull]; decide)] at hsn
      (refine gGo ?_; intros)
      refine ⟨_, _, ?_, ⟨j + 1, by omega, rfl, rfl⟩, [(6, 6), (200, 200)], [], [], LeG.mq (.cons 6 rfl rfl (.refl _) (by rw [hsn]; rfl) (.fam 200 rfl (by rw [hsn]; rfl) (ownF_fam _) .nil))⟩
      omega
    | false =>
      rw [if_pos (by rw [hnull]; rfl)] at hsn
      have ha := ownE_at 200 T x.text
      conv => whnf
      (refine gGo ?_; intros)
      refine zok_intro (by kernel_rfl) ?_
      conv => whnf
      refine ⟨_, ha, ?_⟩
      cases hix : ixS x.text (keysT T) with
      | none =>
        rw [hix] at ha
        have hgt := fun ks => ownE_gat (i := j) (d := 27) (F := 200) (c1 := T.length + 1) (by decide) hix rfl ks
        have hfn := ownF_new (i := j) hix
        have hfl := ownF_len T
        have hl1 : (addB T x.text j).length = T.length + 1 := by rw [addB_none hix]; simp
        conv => whnf
        (refine gGo ?_; intros)
        refine ⟨rowsSz_cons rfl rowsSz_nil, fitsN (n := 1) (b := 8) (by decide) (by decide), Or.inl ?_⟩
        conv => whnf
        (refine gGo ?_; intros)
        refine ⟨_, ha, ?_⟩
        conv => whnf
        (refine gGs ?_; intros)
        refine W.ref (Ref.gather 27 200 (b := .rows 1 [[.int .i64 j]] (some [])) (L := ownF T) (hp := [(6, [.map (ownE 200 (addB T x.text j)) (T.length + 1) (some [200])])])
          (s' := ⟨[(3, .omap 6 0), (8, .sl (cellRows c.cells) false), (9, .int .i64 (cellRows c.cells).length), (10, .int .i64 j)], [(200, ownF T ++ [.rows 1 [[.int .i64 j]] (some [])]), (6, [.map (ownE 200 (addB T x.text j)) (T.length + 1) (some [200])])], _⟩)
          rfl rfl rfl rfl rfl (ownF_fam _) rfl (by repeat' (first | exact trivial | apply And.intro | rfl))
          ⟨⟨rfl, rfl, _, _, rfl, rfl, (by rw [hfl]; exact hgt _), rfl⟩, trivial⟩ rfl (by rw [hK]; rfl)) ?_
        (refine gGo ?_; intros)
        refine ⟨_, _, ?_, ⟨j + 1, by omega, rfl, rfl⟩, [(6, 6), (200, 200)], [], [], LeG.mq (.cons 6 rfl rfl (.refl _) (by rw [hsn, hl1]; rfl) (.fam 200 rfl (by rw [hsn, ← hfn]; rfl) (ownF_fam _) .nil))⟩
        omega
      | some q =>
        rw [hix] at ha
        have hfk := ownF_get (lookB_at hix)
        have hse := fun n (hn : n = (lookB T x.text).length + 1) => ownE_set (F := 200) (i := j) hix hn
        have hsf := ownF_set (i := j) hix
        have hnl := natRows_len (lookB T x.text)
        have hl1 : (addB T x.text j).length = T.length := by rw [addB_some hix]; simp
        conv => whnf
        (refine gGo ?_; intros)
        generalize hO : oslRows _ 200 (q + 2) = O
        have hO2 : O = some (1, natRows (lookB T x.text), some []) := by rw [← hO]; exact oslRows_of hfk
        subst hO2
        clear hO
        conv => whnf
        refine ⟨⟨rowsSz_cons rfl rowsSz_nil, by omega⟩, fitsN (n := (lookB T x.text).length + 1) (b := 8) (by omega) (by omega), .inl ⟨rfl, rfl, ?_⟩⟩
        conv => whnf
        (refine gGo ?_; intros)
        refine ⟨_, ha, ?_⟩
        conv => whnf
        (refine gGs ?_; intros)
        refine W.ref (Ref.rekm' 6 (es1 := ownE 200 (addB T x.text j)) [200] rfl (by rw [← hse _ rfl]; rfl) ownE_sites (fun q hq => by simp at hq; subst hq; rfl)) ?_
        (refine gGo ?_; intros)
        refine ⟨_, _, ?_, ⟨j + 1, by omega, rfl, rfl⟩, [(6, 6), (200, 200)], [], [], LeG.mq (.cons 6 rfl rfl (.refl _) (by rw [hsn, hl1]; rfl) (.fam 200 rfl (by rw [hsn, ← hsf]; unfold lisB; rw [show natRows (lookB T x.text ++ [j]) = natRows (lookB T x.text) ++ [[.int .i64 (j : Int)]] by simp [natRows]]; rfl) (ownF_fam _) .nil))⟩
        omega
  · have hje : j = c.cells.length := by omega
    rw [hje]
    (refine gGo ?_; intros)
    generalize bunC c.cells c.cells.length = T at *
    refine W.leG (mp := [(6, 6)]) (bo := [200]) (st' := ⟨[(2, .omap 6 0)], [(6, [.map (datE T) T.length (some [])])], [6]⟩)
      (LeG.mq (.cons 6 (b1 := .map (datE T) T.length (some [])) rfl rfl (datE_lent rfl rfl) rfl .nil)) ?_
    refine W.leG (mp := []) (bo := [6]) (st' := ⟨[(2, .dmap (mkD (datE T)))], [], []⟩)
      (LeG.mk' rfl rfl rfl ⟨⟨_, .omapF 6 0 _ _ _ rfl rfl (datE_pure _ _), rfl⟩, trivial⟩ .nil rfl rfl (by rw [hK]; rfl)) ?_
    (refine gM ?_; conv => whnf)
    exact ret0 rfl rfl rfl
end Go.Sx.Sp
namespace Go.Sx.Sp
open Go Go.Sx Go.Proofs
attribute [local irreducible] GoodW famL
def planR (l : List Table) (p : Pth) : List V := [.sl (nodRows (planN l p)) false]
theorem plan_row {l : List Table} {p : Pth} {i : Nat} (hi : i ≤ p.steps.length) : (nodRows (planN l p))[i]? = some ((nodeAt l p p.steps.length i).rowW (.sl (natRows (kidsL p p.steps.length i)) false) (.sl (intRows .i64 (cntsN l p i)) false) (.dmap (mkD (sumE (talsN l p i))))) := by
  have h1 := plan_get l p hi
  unfold nodRows
  rw [List.getElem?_map, h1]
  show some (Nod.row { nodeAt l p p.steps.length i with done := some (cntsN l p i, talsN l p i) }) = _
  unfold Nod.row Nod.cv Nod.sv Nod.rowW
  simp only [nodeAt_kids]
theorem plan_rows (l : List Table) (p : Pth) : (nodRows (planN l p)).length = p.steps.length + 1 := by rw [nodRows_len, planN_len]
def totN (l : List Table) (p : Pth) : Int := sumTo (rowsN (tabN l p 0)) (cntI l p 0)
theorem cntsN_get {l : List Table} {p : Pth} {i y : Nat} (hy : y < rowsN (tabN l p i)) : (intRows .i64 (cntsN l p i))[y]? = some [.int .i64 (cntI l p i y)] := by
  have h1 : y < (cntsN l p i).length := by rw [cntsN_len]; exact hy
  rw [intRows_get h1]
  unfold cntI
  rw [List.getD_eq_getElem?_getD, List.getElem?_eq_getElem h1]; rfl
theorem cntI_bound {l : List Table} {p : Pth} (h : validE l p = 0) {i y : Nat} (hi : i ≤ p.steps.length) (hy : y < rowsN (tabN l p i)) : 0 ≤ cntI l p i y ∧ cntI l p i y ≤ 1125899906842624 := by
  refine plan_bound h hi _ ?_
  unfold cntI
  have h1 : y < (cntsN l p i).length := by rw [cntsN_len]; exact hy
  rw [List.getD_eq_getElem?_getD, List.getElem?_eq_getElem h1]
  exact List.getElem_mem h1
theorem sumTo_bound {f : Nat → Int} {M : Int} : ∀ n, (∀ y, y < n → 0 ≤ f y ∧ f y ≤ M) → 0 ≤ sumTo n f ∧ sumTo n f ≤ n * M
  | 0, _ => by simp [sumTo]
  | n + 1, hf => by
    have ih := sumTo_bound n fun y hy => hf y (by omega)
    have := hf n (by omega)
    rw [sumTo_succ, Int.natCast_add, Int.add_mul]
    constructor
    · omega
    · have e : ((1 : Nat) : Int) * M = M := by simp
      rw [e]; omega
theorem tabN_ok {l : List Table} {p : Pth} (h : validE l p = 0) {i : Nat} (hi : i ≤ p.steps.length) : validB (tabN l p i) = true := by
  have hv := valid_path h
  have key : ∀ n, (findT l n).isSome = true → validB (tabOf l n) = true := fun n hn => by
    obtain ⟨t, ht⟩ := Option.isSome_iff_exists.1 hn
    unfold tabOf
    rw [ht]
    exact listB_valid hv.1 t (findT_mem ht).1
  have hp := hv.2.2
  cases i with
  | zero =>
    refine key p.start ?_
    unfold pathB at hp
    rw [Bool.and_eq_true] at hp
    exact hp.1
  | succ i =>
    have hs := pathB_step hp (i := i) (by omega)
    have htt : tabN l p (i + 1) = tabOf l (stpAt p i).tt := rfl
    rw [htt]
    refine key _ ?_
    cases hf : findT l (stpAt p i).tt with
    | some t => rfl
    | none =>
      exfalso
      have h2 := hs.tc
      unfold tabOf at h2
      rw [hf] at h2
      simp [Table.zero] at h2
      omega
set_option maxHeartbeats 4000000 in
theorem total_spec {l : List Table} {p : Pth} (h : validE l p = 0) : Spec Tryd.prog 24 [.ro (planR l p) 0] [] (.int .i64 (totN l p)) [] := by
  have hx := plan_row (l := l) (p := p) (Nat.zero_le _)
  have hl := plan_rows l p
  have hcl := intRows_len .i64 (cntsN l p 0)
  rw [cntsN_len] at hcl
  change _ = rowsN (tabN l p 0) at hcl
  have hr4 := (validB_rows (tabN_ok h (Nat.zero_le _))).1
  have hcg : ∀ y, y < rowsN (tabN l p 0) → (intRows .i64 (cntsN l p 0))[y]? = some [.int .i64 (cntI l p 0 y)] := fun y hy => cntsN_get hy
  have hcb : ∀ y, y < rowsN (tabN l p 0) → 0 ≤ cntI l p 0 y ∧ cntI l p 0 y ≤ 1125899906842624 := fun y hy => cntI_bound h (Nat.zero_le _) hy
  unfold totN planR
  generalize rowsN (tabN l p 0) = n at *
  generalize cntI l p 0 = f at *
  generalize intRows .i64 (cntsN l p 0) = cs at *
  have hsb : ∀ j, j ≤ n → 0 ≤ sumTo j f ∧ sumTo j f ≤ 4096 * 1125899906842624 := fun j hj => by
    have h1 := sumTo_bound (f := f) (M := 1125899906842624) j fun y hy => hcb y (by omega)
    refine ⟨h1.1, Int.le_trans h1.2 (Int.mul_le_mul_of_nonneg_right (by omega) (by decide))⟩
  refine gEn env Tryd.func24 fun Γ hN hK hML => ?_
  (refine gGo ?_; intros)
  refine rowAt_of (by simpa using hx) ?_
  conv => whnf
  (refine gGo ?_; intros)
  refine W.loopG (fun m st => ∃ j : Nat, j ≤ n ∧ m = n - j ∧ st = ⟨[(3, .int .i64 (sumTo j f)), (12, .sl cs false), (13, .int .i64 cs.length), (14, .int .i64 j)], [], []⟩)
    n _ ⟨0, by omega, by omega, rfl⟩ ⟨[], [], [], .mq .nil⟩ ?_
  rintro m st ⟨j, hj, rfl, rfl⟩
  have hs0 := hsb j hj
  (refine gGo ?_; intros)
  refine boolRes_split (fun hb => ?_) (fun hb => ?_) <;> conv => whnf
  · have hlt : j < n := by omega
    have hg := hcg j hlt
    have hs1 := hsb (j + 1) (by omega)
    rw [sumTo_succ] at hs1
    have hsn := sumTo_succ j f
    (refine gGo ?_; intros)
    refine rowAt_of (by simpa using hg) ?_
    conv => whnf
    (refine gGo ?_; intros)
    refine ⟨_, _, ?_, ⟨j + 1, by omega, rfl, rfl⟩, [], [], [], LeG.mk' rfl rfl rfl (by rw [hsn]; exact (by repeat' (first | exact trivial | exact ⟨_, .refl _, rfl⟩ | apply And.intro))) .nil rfl rfl (by rw [hK]; rfl)⟩
    omega
  · obtain rfl : j = n := by omega
    (refine gGr ?_; intros)
    exact ret0 rfl rfl rfl
theorem validB_cols {t : Table} (h : validB t = true) : t.cols.length ≤ 64 := by
  unfold validB headB at h
  simp only [Bool.and_eq_true, decide_eq_true_eq] at h
  exact h.1.1.2
end Go.Sx.Sp
