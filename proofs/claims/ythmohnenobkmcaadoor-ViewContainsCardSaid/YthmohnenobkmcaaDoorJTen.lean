/- Views: which are valid, which rows they keep, and what they show. -/
import Derived.Test.YthmohnenobkmcaaDoorJNine
import Derived.Test.YthmohnenobkmcaaDoorJSix
import Derived.Test.YthmohnenobkmcaaDoorSxFour
set_option linter.unusedVariables false
set_option linter.unusedSimpArgs false
namespace Go.Sx.Sp
open Go Go.Sx Go.Proofs
attribute [local irreducible] GoodW famL
structure Rf where
  t : Int
  c : Int
  deriving DecidableEq
structure Flt where
  r : Rf
  kind : Int
  text : Str
  deriving DecidableEq
structure Vw where
  path : Pth
  fs : List Flt
  cs : List Rf
def Rf.row (r : Rf) : List V := [.int .i64 r.t, .int .i64 r.c]
def Flt.row (f : Flt) : List V := [.int .i64 f.r.t, .int .i64 f.r.c, .int .i64 f.kind, .str f.text]
def rfRows (l : List Rf) : List (List V) := l.map Rf.row
def fltRows (l : List Flt) : List (List V) := l.map Flt.row
def Vw.row (v : Vw) : List V := [.int .i64 v.path.start, .sl (stpRows v.path.steps) false, .sl (fltRows v.fs) false, .sl (rfRows v.cs) false]
theorem rfRows_len (l : List Rf) : (rfRows l).length = l.length := by simp [rfRows]
theorem fltRows_len (l : List Flt) : (fltRows l).length = l.length := by simp [fltRows]
theorem rfRows_get {l : List Rf} {i : Nat} (h : i < l.length) : (rfRows l)[i]? = some l[i].row := by simp [rfRows, h]
theorem fltRows_get {l : List Flt} {i : Nat} (h : i < l.length) : (fltRows l)[i]? = some l[i].row := by simp [fltRows, h]
def tabsI (p : Pth) : List Int := befT p p.steps.length
def hasB (l : List Table) (p : Pth) (r : Rf) : Bool := (getC l r.t r.c).isSome && decide (r.t ∈ tabsI p)
def properB (f : Flt) : Bool := if f.kind = 1 ∨ f.kind = 2 then decide (f.text.length ≤ 1024) else if f.kind = 3 ∨ f.kind = 4 then decide (f.text = []) else false
def keepsB (f : Flt) (c : Cell) : Bool := if f.kind = 1 then !c.null && decide (c.text = f.text) else if f.kind = 2 then !c.null && !decide (c.text = f.text) else if f.kind = 3 then c.null else !c.null
set_option maxHeartbeats 4000000 in
theorem vtables_spec (p : Pth) (hl : p.steps.length ≤ 100) : Spec Tryd.prog 27 [.agg p.row] [] (.sl (intRows .i64 (tabsI p)) false) [] := by
  have hsl := stpRows_len p.steps
  refine gEn env Tryd.func27 fun Γ hN hK hML => ?_
  (refine gGl ?_; intros)
  refine Or.inl ?_
  conv => whnf
  (refine gGo ?_; intros)
  refine W.leG (mp := [(1, 1), (8, 8)]) (bo := []) (st' := ⟨[(3, .osl 8 0 0 1 1), (10, .sl (stpRows p.steps) false), (11, .int .i64 (stpRows p.steps).length), (12, .int .i64 0)], [(1, [.rows 2 [p.row] none]), (8, [.rows 1 (intRows .i64 (befT p 0)) (some [])])], [1, 8]⟩)
    (LeG.mq (.ci 1 (.cons 8 (b1 := .rows 1 (intRows .i64 (befT p 0)) (some [])) rfl rfl (.pure _ _ _ (ints_pure .i64 (befT p 0))) rfl .nil))) ?_
  refine W.loopG (fun n st => ∃ k : Nat, k ≤ p.steps.length ∧ n = p.steps.length - k ∧ st = ⟨[(3, .osl 8 0 0 (intRows .i64 (befT p k)).length (intRows .i64 (befT p k)).length), (10, .sl (stpRows p.steps) false), (11, .int .i64 (stpRows p.steps).length), (12, .int .i64 k)], [(1, [.rows 2 [p.row] none]), (8, [.rows 1 (intRows .i64 (befT p k)) (some [])])], [1, 8]⟩)
    p.steps.length _ ⟨0, by omega, by omega, rfl⟩ ⟨[(1, 1), (8, 8)], [], [], .mq (.ci 1 (.ci 8 .nil))⟩ ?_
  rintro n st ⟨k, hk, rfl, rfl⟩
  have hol := intRows_len .i64 (befT p k)
  have hbl := befT_len p hk
  (refine gGo ?_; intros)
  refine boolRes_split (fun hb => ?_) (fun hb => ?_) <;> conv => whnf
  · have hkl : k < p.steps.length := by omega
    have hg := stpRows_get hkl
    have hsn := befT_snoc p hkl
    generalize p.steps[k] = s at *
    (refine gGo ?_; intros)
    refine rowAt_of (by simpa using hg) ?_
    conv => whnf
    (refine gGo ?_; intros)
    refine ⟨⟨rowsSz_cons rfl rowsSz_nil, rfl⟩, fitsN (n := (intRows .i64 (befT p k)).length + 1) (b := 8) (by omega) (by omega), .inl ⟨rfl, rfl, ?_⟩⟩
    conv => whnf
    (refine gGo ?_; intros)
    refine ⟨_, _, ?_, ⟨k + 1, by omega, rfl, rfl⟩, [(1, 1), (8, 8)], [], [], ?_⟩
    · omega
    · rw [hsn]
      have e : intRows .i64 (befT p k ++ [s.tt]) = intRows .i64 (befT p k) ++ [[.int .i64 s.tt]] := by simp [intRows]
      rw [e, List.length_append]
      exact LeG.mq (.ci 1 (.ci 8 .nil))
  · have hke : k = p.steps.length := by omega
    rw [hke]
    (refine gGo ?_; intros)
    refine W.leG (mp := []) (bo := [8]) (st' := ⟨[(2, .sl (intRows .i64 (tabsI p)) false)], [], []⟩)
      (LeG.mk' rfl rfl rfl ⟨⟨_, Lent.whole rfl rfl rfl rfl (.inl rfl), rfl⟩, trivial⟩ .nil rfl rfl (by rw [hK]; rfl)) ?_
    (refine gM ?_; conv => whnf)
    exact ret0 rfl rfl rfl
set_option maxHeartbeats 4000000 in
theorem has_spec (l : List Table) (p : Pth) (r : Rf) (hl : p.steps.length ≤ 100) (hs : ∀ t ∈ l, SmallT t) : Spec Tryd.prog 38 [.sl (tblRows l) false, .agg p.row, .agg r.row] [] (.bool (hasB l p r)) [] := by
  have sp1 := getC_spec l r.t r.c hs
  have sp2 := vtables_spec p hl
  have sp3 := contains_spec (tabsI p) r.t
  unfold hasB
  generalize (getC l r.t r.c).getD Column.zero = c0 at *
  generalize decide (r.t ∈ tabsI p) = b2 at *
  cases hb : (getC l r.t r.c).isSome with
  | false =>
    rw [hb] at sp1
    refine gEn env Tryd.func38 fun Γ hN hK hML => ?_
    (refine gGo ?_; intros)
    (refine gPC (sp1) ?_; conv => whnf)
    (refine gGr ?_; intros)
    exact ret0 rfl rfl rfl
  | true =>
    rw [hb] at sp1
    refine gEn env Tryd.func38 fun Γ hN hK hML => ?_
    (refine gGo ?_; intros)
    (refine gPC (sp1) ?_; conv => whnf)
    (refine gGo ?_; intros)
    (refine gPC (sp2) ?_; conv => whnf)
    (refine gGo ?_; intros)
    (refine gPC (sp3) ?_; conv => whnf)
    (refine gGr ?_; intros)
    exact ret0 rfl rfl rfl
set_option maxHeartbeats 4000000 in
theorem proper_spec (f : Flt) : Spec Tryd.prog 43 [.agg f.row] [] (.bool (properB f)) [] := by
  unfold properB
  by_cases h1 : f.kind = 1
  · rw [if_pos (.inl h1)]
    by_cases hx : f.text.length ≤ 1024
    · rw [decide_eq_true hx]
      refine gEn env Tryd.func43 fun Γ hN hK hML => ?_
      (refine gGr ?_; intros)
      exact ret0 rfl rfl rfl
    · rw [decide_eq_false hx]
      refine gEn env Tryd.func43 fun Γ hN hK hML => ?_
      (refine gGr ?_; intros)
      exact ret0 rfl rfl rfl
  by_cases h2 : f.kind = 2
  · rw [if_pos (.inr h2)]
    by_cases hx : f.text.length ≤ 1024
    · rw [decide_eq_true hx]
      refine gEn env Tryd.func43 fun Γ hN hK hML => ?_
      (refine gGr ?_; intros)
      exact ret0 rfl rfl rfl
    · rw [decide_eq_false hx]
      refine gEn env Tryd.func43 fun Γ hN hK hML => ?_
      (refine gGr ?_; intros)
      exact ret0 rfl rfl rfl
  rw [if_neg (by omega)]
  by_cases h3 : f.kind = 3
  · rw [if_pos (.inl h3)]
    by_cases hx : f.text = []
    · rw [decide_eq_true hx]
      refine gEn env Tryd.func43 fun Γ hN hK hML => ?_
      (refine gGr ?_; intros)
      exact ret0 rfl rfl rfl
    · rw [decide_eq_false hx]
      refine gEn env Tryd.func43 fun Γ hN hK hML => ?_
      (refine gGr ?_; intros)
      exact ret0 rfl rfl rfl
  by_cases h4 : f.kind = 4
  · rw [if_pos (.inr h4)]
    by_cases hx : f.text = []
    · rw [decide_eq_true hx]
      refine gEn env Tryd.func43 fun Γ hN hK hML => ?_
      (refine gGr ?_; intros)
      exact ret0 rfl rfl rfl
    · rw [decide_eq_false hx]
      refine gEn env Tryd.func43 fun Γ hN hK hML => ?_
      (refine gGr ?_; intros)
      exact ret0 rfl rfl rfl
  rw [if_neg (by omega)]
  refine gEn env Tryd.func43 fun Γ hN hK hML => ?_
  (refine gGr ?_; intros)
  exact ret0 rfl rfl rfl
set_option maxHeartbeats 4000000 in
theorem keeps_spec (f : Flt) (c : Cell) : Spec Tryd.prog 30 [.agg f.row, .agg c.row] [] (.bool (keepsB f c)) [] := by
  unfold keepsB
  obtain ⟨nul, tx⟩ := c
  obtain ⟨r0, kd, ft⟩ := f
  dsimp only
  by_cases h1 : kd = 1
  · rw [if_pos h1]
    cases nul with
    | true =>
      refine gEn env Tryd.func30 fun Γ hN hK hML => ?_
      (refine gGr ?_; intros)
      exact ret0 rfl rfl rfl
    | false =>
      by_cases hx : tx = ft
      · subst hx
        rw [decide_eq_true rfl]
        refine gEn env Tryd.func30 fun Γ hN hK hML => ?_
        (refine gGr ?_; intros)
        exact ret0 rfl rfl rfl
      · rw [decide_eq_false hx]
        refine gEn env Tryd.func30 fun Γ hN hK hML => ?_
        (refine gGr ?_; intros)
        exact ret0 rfl rfl rfl
  rw [if_neg h1]
  by_cases h2 : kd = 2
  · rw [if_pos h2]
    cases nul with
    | true =>
      refine gEn env Tryd.func30 fun Γ hN hK hML => ?_
      (refine gGr ?_; intros)
      exact ret0 rfl rfl rfl
    | false =>
      by_cases hx : tx = ft
      · subst hx
        rw [decide_eq_true rfl]
        refine gEn env Tryd.func30 fun Γ hN hK hML => ?_
        (refine gGo ?_; intros)
        refine gL (fun h => h rfl) ?_
        conv => whnf
        (refine gGr ?_; intros)
        exact ret0 rfl rfl rfl
      · rw [decide_eq_false hx]
        refine gEn env Tryd.func30 fun Γ hN hK hML => ?_
        (refine gGr ?_; intros)
        exact ret0 rfl rfl rfl
  rw [if_neg h2]
  by_cases h3 : kd = 3
  · rw [if_pos h3]
    cases nul with
    | true =>
      refine gEn env Tryd.func30 fun Γ hN hK hML => ?_
      (refine gGr ?_; intros)
      exact ret0 rfl rfl rfl
    | false =>
      refine gEn env Tryd.func30 fun Γ hN hK hML => ?_
      (refine gGr ?_; intros)
      exact ret0 rfl rfl rfl
  rw [if_neg h3]
  have h4 : ¬ (1 = kd) := fun h => h1 h.symm
  cases nul with
  | true =>
    refine gEn env Tryd.func30 fun Γ hN hK hML => ?_
    (refine gGr ?_; intros)
    exact ret0 rfl rfl rfl
  | false =>
    refine gEn env Tryd.func30 fun Γ hN hK hML => ?_
    (refine gGr ?_; intros)
    exact ret0 rfl rfl rfl
end Go.Sx.Sp
namespace Go.Sx.Sp
open Go Go.Sx Go.Proofs
attribute [local irreducible] GoodW famL
def nhF (l : List Table) (p : Pth) (f : Flt) : Bool := !hasB l p f.r
def nhR (l : List Table) (p : Pth) (r : Rf) : Bool := !hasB l p r
def npB (f : Flt) : Bool := !properB f
def validV (l : List Table) (v : Vw) : Int :=
  if validE l v.path = 0 then
    (if v.fs.length ≤ 8 ∧ v.cs.length ≤ 64 then
      (if (v.fs.any (nhF l v.path)) = false ∧ (v.cs.any (nhR l v.path)) = false then
        (if (v.fs.any npB) = false then 0 else 2)
      else 5)
    else 3)
  else validE l v.path
theorem none_spec (l : List Table) (v : Vw) (r : Rf) (hl : v.path.steps.length ≤ 100) (hs : ∀ t ∈ l, SmallT t) : Spec Tryd.prog 37 [.agg r.row, .ro [.sl (tblRows l) false] 0, .ro v.row 0] [] (.bool (nhR l v.path r)) [] := by
  have sp := has_spec l v.path r hl hs
  unfold nhR
  generalize hasB l v.path r = b at *
  refine gEn env Tryd.func37 fun Γ hN hK hML => ?_
  (refine gGo ?_; intros)
  (refine gPC (sp) ?_; conv => whnf)
  cases b <;> (conv => whnf) <;> ((refine gGr ?_; intros); exact ret0 rfl rfl rfl)
theorem noneF_spec (l : List Table) (v : Vw) (f : Flt) (hl : v.path.steps.length ≤ 100) (hs : ∀ t ∈ l, SmallT t) : Spec Tryd.prog 40 [.agg f.row, .ro [.fn 37 [.ro [.sl (tblRows l) false] 0, .ro v.row 0]] 0] [] (.bool (nhF l v.path f)) [] := by
  have sp := none_spec l v f.r hl hs
  refine gEn env Tryd.func40 fun Γ hN hK hML => ?_
  (refine gGo ?_; intros)
  (refine gPC (sp) ?_; conv => whnf)
  (refine gGr ?_; intros)
  exact ret0 rfl rfl rfl
theorem notProper_spec (f : Flt) : Spec Tryd.prog 42 [.agg f.row] [] (.bool (npB f)) [] := by
  have sp := proper_spec f
  unfold npB
  generalize properB f = b at *
  refine gEn env Tryd.func42 fun Γ hN hK hML => ?_
  (refine gGo ?_; intros)
  (refine gPC (sp) ?_; conv => whnf)
  cases b <;> (conv => whnf) <;> ((refine gGr ?_; intros); exact ret0 rfl rfl rfl)
set_option maxHeartbeats 2000000 in
theorem indexFA_spec (tl : List Table) (vw : Vw) (hl1 : vw.path.steps.length ≤ 100) (hs1 : ∀ t ∈ tl, SmallT t) (l : List Flt) : Spec Tryd.prog 54 [.sl (fltRows l) false, .fn 40 [.ro [.fn 37 [.ro [.sl (tblRows tl) false] 0, .ro vw.row 0]] 0]] [] (.int .i64 (ixFrom (nhF tl vw.path) l 0)) [] := by
  have hrl : (fltRows l).length = l.length := by simp [fltRows]
  refine gEn env Tryd.func54 fun Γ hN hK hML => ?_
  (refine gGo ?_; intros)
  refine W.loopG (fun n st => ∃ k : Nat, k ≤ l.length ∧ ixFrom (nhF tl vw.path) l 0 = ixFrom (nhF tl vw.path) (l.drop k) k ∧ n = l.length - k ∧ st = ⟨[(0, .sl (fltRows l) false), (1, .fn 40 [.ro [.fn 37 [.ro [.sl (tblRows tl) false] 0, .ro vw.row 0]] 0]), (7, .int .i64 (fltRows l).length), (8, .int .i64 k)], [], []⟩)
    l.length _ ⟨0, by omega, rfl, by omega, rfl⟩ ⟨[], [], [], .mq .nil⟩ ?_
  rintro n st ⟨k, hk, hix, rfl, rfl⟩
  (refine gGo ?_; intros)
  refine boolRes_split (fun hb => ?_) (fun hb => ?_) <;> conv => whnf
  · have hlt : k < l.length := by omega
    have hx : (fltRows l)[k]? = some (l[k]).row := by simp [fltRows, hlt]
    have sp := (fun f => noneF_spec tl vw f hl1 hs1) l[k]
    rw [List.drop_eq_getElem_cons hlt] at hix
    generalize l[k] = x at *
    simp only [ixFrom] at hix
    (refine gGo ?_; intros)
    refine rowAt_of hx ?_
    conv => whnf
    (refine gGo ?_; intros)
    cases hb2 : (nhF tl vw.path) x with
    | true =>
      rw [hb2] at sp hix
      (refine gPC (sp) ?_; conv => whnf)
      (refine gGr ?_; intros)
      exact ret0 rfl (congrArg (V.int .i64) (by rw [hix]; rfl)) rfl
    | false =>
      rw [hb2] at sp hix
      (refine gPC (sp) ?_; conv => whnf)
      (refine gGo ?_; intros)
      refine ⟨_, _, ?_, ⟨k + 1, by omega, ?_, rfl, rfl⟩, ⟨[], [], [], .mq .nil⟩⟩
      · omega
      · rw [hix]; rfl
  · have hke : k = l.length := by omega
    rw [hke, List.drop_length] at hix
    (refine gGr ?_; intros)
    exact ret0 rfl (congrArg (V.int .i64) (by rw [hix]; rfl)) rfl
set_option maxHeartbeats 2000000 in
theorem indexFB_spec  (l : List Flt) : Spec Tryd.prog 54 [.sl (fltRows l) false, .fn 42 []] [] (.int .i64 (ixFrom (npB) l 0)) [] := by
  have hrl : (fltRows l).length = l.length := by simp [fltRows]
  refine gEn env Tryd.func54 fun Γ hN hK hML => ?_
  (refine gGo ?_; intros)
  refine W.loopG (fun n st => ∃ k : Nat, k ≤ l.length ∧ ixFrom (npB) l 0 = ixFrom (npB) (l.drop k) k ∧ n = l.length - k ∧ st = ⟨[(0, .sl (fltRows l) false), (1, .fn 42 []), (7, .int .i64 (fltRows l).length), (8, .int .i64 k)], [], []⟩)
    l.length _ ⟨0, by omega, rfl, by omega, rfl⟩ ⟨[], [], [], .mq .nil⟩ ?_
  rintro n st ⟨k, hk, hix, rfl, rfl⟩
  (refine gGo ?_; intros)
  refine boolRes_split (fun hb => ?_) (fun hb => ?_) <;> conv => whnf
  · have hlt : k < l.length := by omega
    have hx : (fltRows l)[k]? = some (l[k]).row := by simp [fltRows, hlt]
    have sp := notProper_spec l[k]
    rw [List.drop_eq_getElem_cons hlt] at hix
    generalize l[k] = x at *
    simp only [ixFrom] at hix
    (refine gGo ?_; intros)
    refine rowAt_of hx ?_
    conv => whnf
    (refine gGo ?_; intros)
    cases hb2 : (npB) x with
    | true =>
      rw [hb2] at sp hix
      (refine gPC (sp) ?_; conv => whnf)
      (refine gGr ?_; intros)
      exact ret0 rfl (congrArg (V.int .i64) (by rw [hix]; rfl)) rfl
    | false =>
      rw [hb2] at sp hix
      (refine gPC (sp) ?_; conv => whnf)
      (refine gGo ?_; intros)
      refine ⟨_, _, ?_, ⟨k + 1, by omega, ?_, rfl, rfl⟩, ⟨[], [], [], .mq .nil⟩⟩
      · omega
      · rw [hix]; rfl
  · have hke : k = l.length := by omega
    rw [hke, List.drop_length] at hix
    (refine gGr ?_; intros)
    exact ret0 rfl (congrArg (V.int .i64) (by rw [hix]; rfl)) rfl
set_option maxHeartbeats 2000000 in
theorem indexRf_spec (tl : List Table) (vw : Vw) (hl1 : vw.path.steps.length ≤ 100) (hs1 : ∀ t ∈ tl, SmallT t) (l : List Rf) : Spec Tryd.prog 55 [.sl (rfRows l) false, .fn 37 [.ro [.sl (tblRows tl) false] 0, .ro vw.row 0]] [] (.int .i64 (ixFrom (nhR tl vw.path) l 0)) [] := by
  have hrl : (rfRows l).length = l.length := by simp [rfRows]
  refine gEn env Tryd.func55 fun Γ hN hK hML => ?_
  (refine gGo ?_; intros)
  refine W.loopG (fun n st => ∃ k : Nat, k ≤ l.length ∧ ixFrom (nhR tl vw.path) l 0 = ixFrom (nhR tl vw.path) (l.drop k) k ∧ n = l.length - k ∧ st = ⟨[(0, .sl (rfRows l) false), (1, .fn 37 [.ro [.sl (tblRows tl) false] 0, .ro vw.row 0]), (7, .int .i64 (rfRows l).length), (8, .int .i64 k)], [], []⟩)
    l.length _ ⟨0, by omega, rfl, by omega, rfl⟩ ⟨[], [], [], .mq .nil⟩ ?_
  rintro n st ⟨k, hk, hix, rfl, rfl⟩
  (refine gGo ?_; intros)
  refine boolRes_split (fun hb => ?_) (fun hb => ?_) <;> conv => whnf
  · have hlt : k < l.length := by omega
    have hx : (rfRows l)[k]? = some (l[k]).row := by simp [rfRows, hlt]
    have sp := (fun r => none_spec tl vw r hl1 hs1) l[k]
    rw [List.drop_eq_getElem_cons hlt] at hix
    generalize l[k] = x at *
    simp only [ixFrom] at hix
    (refine gGo ?_; intros)
    refine rowAt_of hx ?_
    conv => whnf
    (refine gGo ?_; intros)
    cases hb2 : (nhR tl vw.path) x with
    | true =>
      rw [hb2] at sp hix
      (refine gPC (sp) ?_; conv => whnf)
      (refine gGr ?_; intros)
      exact ret0 rfl (congrArg (V.int .i64) (by rw [hix]; rfl)) rfl
    | false =>
      rw [hb2] at sp hix
      (refine gPC (sp) ?_; conv => whnf)
      (refine gGo ?_; intros)
      refine ⟨_, _, ?_, ⟨k + 1, by omega, ?_, rfl, rfl⟩, ⟨[], [], [], .mq .nil⟩⟩
      · omega
      · rw [hix]; rfl
  · have hke : k = l.length := by omega
    rw [hke, List.drop_length] at hix
    (refine gGr ?_; intros)
    exact ret0 rfl (congrArg (V.int .i64) (by rw [hix]; rfl)) rfl
theorem contFA_spec (tl : List Table) (vw : Vw) (hl1 : vw.path.steps.length ≤ 100) (hs1 : ∀ t ∈ tl, SmallT t) (l : List Flt) : Spec Tryd.prog 39 [.sl (fltRows l) false, .fn 40 [.ro [.fn 37 [.ro [.sl (tblRows tl) false] 0, .ro vw.row 0]] 0]] [] (.bool (l.any (nhF tl vw.path))) [] := by
  have sp := indexFA_spec tl vw hl1 hs1 l
  have hn := ixFrom_nonneg (nhF tl vw.path) l 0
  generalize ixFrom (nhF tl vw.path) l 0 = x at *
  generalize l.any (nhF tl vw.path) = b at *
  cases b with
  | true =>
    have hx : 0 ≤ x := hn.2 rfl
    refine gEn env Tryd.func39 fun Γ hN hK hML => ?_
    (refine gGo ?_; intros)
    (refine gPC (sp) ?_; conv => whnf)
    (refine gGr ?_; intros)
    exact ret0 rfl rfl rfl
  | false =>
    have hx : ¬ 0 ≤ x := fun h => by cases hn.1 h
    refine gEn env Tryd.func39 fun Γ hN hK hML => ?_
    (refine gGo ?_; intros)
    (refine gPC (sp) ?_; conv => whnf)
    (refine gGr ?_; intros)
    exact ret0 rfl rfl rfl
theorem contFB_spec  (l : List Flt) : Spec Tryd.prog 39 [.sl (fltRows l) false, .fn 42 []] [] (.bool (l.any (npB))) [] := by
  have sp := indexFB_spec l
  have hn := ixFrom_nonneg (npB) l 0
  generalize ixFrom (npB) l 0 = x at *
  generalize l.any (npB) = b at *
  cases b with
  | true =>
    have hx : 0 ≤ x := hn.2 rfl
    refine gEn env Tryd.func39 fun Γ hN hK hML => ?_
    (refine gGo ?_; intros)
    (refine gPC (sp) ?_; conv => whnf)
    (refine gGr ?_; intros)
    exact ret0 rfl rfl rfl
  | false =>
    have hx : ¬ 0 ≤ x := fun h => by cases hn.1 h
    refine gEn env Tryd.func39 fun Γ hN hK hML => ?_
    (refine gGo ?_; intros)
    (refine gPC (sp) ?_; conv => whnf)
    (refine gGr ?_; intros)
    exact ret0 rfl rfl rfl
theorem contRf_spec (tl : List Table) (vw : Vw) (hl1 : vw.path.steps.length ≤ 100) (hs1 : ∀ t ∈ tl, SmallT t) (l : List Rf) : Spec Tryd.prog 41 [.sl (rfRows l) false, .fn 37 [.ro [.sl (tblRows tl) false] 0, .ro vw.row 0]] [] (.bool (l.any (nhR tl vw.path))) [] := by
  have sp := indexRf_spec tl vw hl1 hs1 l
  have hn := ixFrom_nonneg (nhR tl vw.path) l 0
  generalize ixFrom (nhR tl vw.path) l 0 = x at *
  generalize l.any (nhR tl vw.path) = b at *
  cases b with
  | true =>
    have hx : 0 ≤ x := hn.2 rfl
    refine gEn env Tryd.func41 fun Γ hN hK hML => ?_
    (refine gGo ?_; intros)
    (refine gPC (sp) ?_; conv => whnf)
    (refine gGr ?_; intros)
    exact ret0 rfl rfl rfl
  | false =>
    have hx : ¬ 0 ≤ x := fun h => by cases hn.1 h
    refine gEn env Tryd.func41 fun Γ hN hK hML => ?_
    (refine gGo ?_; intros)
    (refine gPC (sp) ?_; conv => whnf)
    (refine gGr ?_; intros)
    exact ret0 rfl rfl rfl
set_option maxHeartbeats 8000000 in
theorem validV_spec (l : List Table) (v : Vw) : Spec Tryd.prog 25 [.sl (tblRows l) false, .agg v.row] [] (.int .i64 (validV l v)) [] := by
  have sp1 := validP_spec l v.path
  have hfl := fltRows_len v.fs
  have hrl := rfRows_len v.cs
  unfold validV
  refine gEn env Tryd.func25 fun Γ hN hK hML => ?_
  refine gA ?_
  refine gE env hN (by kernel_rfl) ?_
  conv => whnf
  (refine gGs ?_; intros)
  refine W.leG (mp := []) (bo := [2, 3]) (st' := ⟨[(2, .ro [.sl (tblRows l) false] 0), (3, .ro v.row 0)], [], []⟩)
    (LeG.mk' rfl rfl rfl ⟨⟨_, .bp 2 0 1 [.sl (tblRows l) false] none rfl rfl (by simp) (.inr rfl), rfl⟩, ⟨_, .bp 3 0 4 v.row none rfl rfl (by simp [Vw.row]) (.inr rfl), rfl⟩, trivial⟩ .nil rfl rfl (by rw [hK]; rfl)) ?_
  by_cases h : validE l v.path = 0
  · rw [if_pos h]
    rw [h] at sp1
    have hl1 : v.path.steps.length ≤ 100 := by have := (valid_path h).2.1; omega
    have hs1 := listB_small (valid_path h).1
    have spA := contFA_spec l v hl1 hs1 v.fs
    have spB := contFB_spec v.fs
    have spR := contRf_spec l v hl1 hs1 v.cs
    (refine gGo ?_; intros)
    (refine gPC (sp1) ?_; conv => whnf)
    (refine gGs ?_; intros)
    refine gA ?_
    (refine gE env hN (by kernel_rfl) ?_; conv => whnf)
    (refine gGs ?_; intros)
    refine gD rfl ?_
    refine gF ?_
    conv => whnf
    refine gA ?_
    (refine gE env hN (by kernel_rfl) ?_; conv => whnf)
    (refine gGs ?_; intros)
    refine W.leG (mp := []) (bo := [6]) (st' := ⟨[(2, .ro [.sl (tblRows l) false] 0), (3, .ro v.row 0), (6, .ro [.fn 37 [.ro [.sl (tblRows l) false] 0, .ro v.row 0]] 0)], [], []⟩)
      (LeG.mk' rfl rfl rfl ⟨⟨_, .refl _, rfl⟩, ⟨_, .refl _, rfl⟩, ⟨_, .bp 6 0 1 [.fn 37 [.ro [.sl (tblRows l) false] 0, .ro v.row 0]] none rfl rfl (by simp) (.inr rfl), rfl⟩, trivial⟩ .nil rfl rfl (by rw [hK]; rfl)) ?_
    by_cases h8 : v.fs.length ≤ 8 ∧ v.cs.length ≤ 64
    · rw [if_pos h8]
      by_cases hA : v.fs.any (nhF l v.path) = false
      · rw [hA] at spA
        by_cases hR : v.cs.any (nhR l v.path) = false
        · rw [if_pos ⟨hA, hR⟩]
          rw [hR] at spR
          by_cases hB : v.fs.any npB = false
          · rw [if_pos hB]
            rw [hB] at spB
            (refine gGo ?_; intros)
            (refine gPC (spA) ?_; conv => whnf)
            (refine gGo ?_; intros)
            (refine gPC (spR) ?_; conv => whnf)
            (refine gGo ?_; intros)
            (refine gPC (spB) ?_; conv => whnf)
            (refine gGr ?_; intros)
            exact ret0 rfl rfl rfl
          · rw [if_neg hB]
            rw [Bool.of_not_eq_false hB] at spB
            (refine gGo ?_; intros)
            (refine gPC (spA) ?_; conv => whnf)
            (refine gGo ?_; intros)
            (refine gPC (spR) ?_; conv => whnf)
            (refine gGo ?_; intros)
            (refine gPC (spB) ?_; conv => whnf)
            (refine gGr ?_; intros)
            exact ret0 rfl rfl rfl
        · rw [if_neg (fun h => hR h.2)]
          rw [Bool.of_not_eq_false hR] at spR
          (refine gGo ?_; intros)
          (refine gPC (spA) ?_; conv => whnf)
          (refine gGo ?_; intros)
          (refine gPC (spR) ?_; conv => whnf)
          (refine gGr ?_; intros)
          exact ret0 rfl rfl rfl
      · rw [if_neg (fun h => hA h.1)]
        rw [Bool.of_not_eq_false hA] at spA
        (refine gGo ?_; intros)
        (refine gPC (spA) ?_; conv => whnf)
        (refine gGr ?_; intros)
        exact ret0 rfl rfl rfl
    · rw [if_neg h8]
      by_cases h9 : v.fs.length ≤ 8
      · (refine gGr ?_; intros)
        exact ret0 rfl rfl rfl
      · (refine gGr ?_; intros)
        exact ret0 rfl rfl rfl
  · rw [if_neg h]
    generalize validE l v.path = e at *
    (refine gGo ?_; intros)
    (refine gPC (sp1) ?_; conv => whnf)
    (refine gGr ?_; intros)
    exact ret0 rfl rfl rfl
end Go.Sx.Sp
namespace Go.Sx.Sp
open Go Go.Sx Go.Proofs
attribute [local irreducible] GoodW famL
def cell0 : Cell := ⟨false, []⟩
def dropB (f : Flt) (cs : List Cell) (i : Nat) (row : List Nat) : Bool := !keepsB f (cs.getD (row.getD i 0) cell0)
set_option maxHeartbeats 4000000 in
theorem kept1_spec (f : Flt) (c : Column) (E : List (Nat × V × V)) (i b j : Nat) (row : List Nat) (hE : mapAt (.int .i64 f.r.t) E = some (some (j, b, .int .i64 i))) (hi : i < row.length) (hc : row.getD i 0 < c.cells.length) :
    Spec Tryd.prog 29 [.sl (natRows row) false, .ro f.row 0, .ro c.row 0, .ro [.dmap (mkD E)] 0] [] (.bool (dropB f c.cells i row)) [] := by
  have hnl := natRows_len row
  have hcl := cellRows_len c.cells
  have hg1 := natRows_get hi
  have hrd : row.getD i 0 = row[i] := by simp [hi]
  have hg2 := cellRows_get hc
  have hcd : c.cells.getD (row.getD i 0) cell0 = c.cells[row.getD i 0] := by rw [List.getD_eq_getElem?_getD, List.getElem?_eq_getElem hc]; rfl
  unfold dropB
  rw [hcd]
  rw [← hrd] at hg1
  have sp := keeps_spec f c.cells[row.getD i 0]
  generalize c.cells[row.getD i 0] = x at *
  generalize row.getD i 0 = y at *
  refine gEn env Tryd.func29 fun Γ hN hK hML => ?_
  (refine gGo ?_; intros)
  refine zok_intro (by kernel_rfl) ?_
  conv => whnf
  refine ⟨_, rfl, _, hE, ?_⟩
  conv => whnf
  (refine gGo ?_; intros)
  refine rowAt_of (by simpa using hg1) ?_
  conv => whnf
  (refine gGo ?_; intros)
  refine rowAt_of (by simpa using hg2) ?_
  conv => whnf
  (refine gGo ?_; intros)
  (refine gPC (sp) ?_; conv => whnf)
  generalize keepsB f x = bb at *
  cases bb <;> (conv => whnf) <;> ((refine gGr ?_; intros); exact ret0 rfl rfl rfl)
end Go.Sx.Sp
namespace Go.Sx.Sp
open Go Go.Sx Go.Proofs
attribute [local irreducible] GoodW famL
set_option maxHeartbeats 2000000 in
theorem indexRow_spec (f : Flt) (c : Column) (E : List (Nat × V × V)) (i b j : Nat) (hE : mapAt (.int .i64 f.r.t) E = some (some (j, b, .int .i64 i))) (R : List (List Nat)) (hR : ∀ r ∈ R, i < r.length ∧ r.getD i 0 < c.cells.length) :
    Spec Tryd.prog 46 [.sl (rowRows R) false, .fn 29 [.ro f.row 0, .ro c.row 0, .ro [.dmap (mkD E)] 0]] [] (.int .i64 (ixFrom (dropB f c.cells i) R 0)) [] := by
  have hrl := rowRows_len R
  refine gEn env Tryd.func46 fun Γ hN hK hML => ?_
  (refine gGo ?_; intros)
  refine W.loopG (fun n st => ∃ k : Nat, k ≤ R.length ∧ ixFrom (dropB f c.cells i) R 0 = ixFrom (dropB f c.cells i) (R.drop k) k ∧ n = R.length - k ∧ st = ⟨[(0, .sl (rowRows R) false), (1, .fn 29 [.ro f.row 0, .ro c.row 0, .ro [.dmap (mkD E)] 0]), (7, .int .i64 (rowRows R).length), (8, .int .i64 k)], [], []⟩)
    R.length _ ⟨0, by omega, rfl, by omega, rfl⟩ ⟨[], [], [], .mq .nil⟩ ?_
  rintro n st ⟨k, hk, hix, rfl, rfl⟩
  (refine gGo ?_; intros)
  refine boolRes_split (fun hb => ?_) (fun hb => ?_) <;> conv => whnf
  · have hlt : k < R.length := by omega
    have hx := rowRows_get hlt
    have hmm := hR _ (List.getElem_mem hlt)
    have sp := kept1_spec f c E i b j R[k] hE hmm.1 hmm.2
    rw [List.drop_eq_getElem_cons hlt] at hix
    generalize R[k] = x at *
    simp only [ixFrom] at hix
    (refine gGo ?_; intros)
    refine rowAt_of (by simpa using hx) ?_
    conv => whnf
    (refine gGo ?_; intros)
    cases hb2 : dropB f c.cells i x with
    | true =>
      rw [hb2] at sp hix
      (refine gPC (sp) ?_; conv => whnf)
      (refine gGr ?_; intros)
      exact ret0 rfl (congrArg (V.int .i64) (by rw [hix]; rfl)) rfl
    | false =>
      rw [hb2] at sp hix
      (refine gPC (sp) ?_; conv => whnf)
      (refine gGo ?_; intros)
      refine ⟨_, _, ?_, ⟨k + 1, by omega, ?_, rfl, rfl⟩, ⟨[], [], [], .mq .nil⟩⟩
      · omega
      · rw [hix]; rfl
  · have hke : k = R.length := by omega
    rw [hke, List.drop_length] at hix
    (refine gGr ?_; intros)
    exact ret0 rfl (congrArg (V.int .i64) (by rw [hix]; rfl)) rfl
theorem ixFrom_cases {α : Type} (p : α → Bool) : ∀ (l : List α) (k : Nat), (ixFrom p l k = -1 ∧ l.any p = false) ∨ ∃ i, ∃ h : i < l.length, ixFrom p l k = ((k + i : Nat) : Int) ∧ p l[i] = true
  | [], k => .inl ⟨rfl, rfl⟩
  | x :: l, k => by
    simp only [ixFrom]
    by_cases h : p x = true
    · exact .inr ⟨0, by simp, by simp [h], by simpa using h⟩
    · rcases ixFrom_cases p l (k + 1) with ⟨h1, h2⟩ | ⟨i, hi, h1, h2⟩
      · refine .inl ⟨by simp [h, h1], by simp [h, h2]⟩
      · refine .inr ⟨i + 1, by simp; omega, ?_, by simpa using h2⟩
        rw [if_neg h, h1]
        congr 1
        omega
theorem ixFrom_take {α : Type} (p : α → Bool) : ∀ (l : List α) (k i : Nat), i < l.length → ixFrom p l k = ((k + i : Nat) : Int) → (l.take (i + 1)).filter (fun x => !p x) = l.take i
  | [], k, i, hi, h => by simp at hi
  | x :: l, k, i, hi, h => by
    simp only [ixFrom] at h
    by_cases hp : p x = true
    · rw [if_pos hp] at h
      have : i = 0 := by omega
      subst this
      simp [hp]
    · rw [if_neg hp] at h
      cases i with
      | zero =>
        exfalso
        rcases ixFrom_cases p l (k + 1) with ⟨h1, _⟩ | ⟨q, _, h1, _⟩ <;> omega
      | succ i =>
        have h3 := ixFrom_take p l (k + 1) i (by simpa using hi) (by rw [h]; congr 1; omega)
        simp only [List.take_succ_cons, List.filter_cons, show (!p x) = true by simp [hp], if_true]
        rw [h3]
def keepR (f : Flt) (cs : List Cell) (i : Nat) (R : List (List Nat)) : List (List Nat) := R.filter fun x => !dropB f cs i x
theorem keepR_le (f : Flt) (cs : List Cell) (i : Nat) (R : List (List Nat)) : (keepR f cs i R).length ≤ R.length := List.length_filter_le _ _
def junk (R : List (List Nat)) (z : Nat) : List (List V) := rowRows R ++ List.replicate z [.nils]
theorem junk_len (R : List (List Nat)) (z : Nat) : (junk R z).length = R.length + z := by simp [junk, rowRows_len]
theorem junk_get {R : List (List Nat)} {z i : Nat} (h : i < R.length) : (junk R z)[i]? = some [.sl (natRows R[i]) false] := by
  unfold junk
  rw [List.getElem?_append_left (by rw [rowRows_len]; exact h)]
  exact rowRows_get h
theorem junk_take (R : List (List Nat)) (z : Nat) : (junk R z).take R.length = rowRows R := by
  unfold junk
  rw [List.take_append_of_le_length (by rw [rowRows_len]; exact Nat.le_refl _), List.take_of_length_le (by rw [rowRows_len]; exact Nat.le_refl _)]
theorem junk_set {R : List (List Nat)} {z q : Nat} {x : List Nat} (h : q < R.length) : (junk R z).set q [.sl (natRows x) false] = junk (R.set q x) z := by
  unfold junk
  rw [List.set_append_left _ _ (by rw [rowRows_len]; exact h)]
  congr 1
  unfold rowRows
  rw [List.map_set]
set_option maxHeartbeats 8000000 in
theorem deleteR_spec (f : Flt) (c : Column) (E : List (Nat × V × V)) (i b j : Nat) (hE : mapAt (.int .i64 f.r.t) E = some (some (j, b, .int .i64 i))) (R : List (List Nat)) (hR : ∀ r ∈ R, i < r.length ∧ r.getD i 0 < c.cells.length) (z : Nat) (hlim : R.length + z ≤ 4294967296) :
    Spec Tryd.prog 28 [.osl 0 0 0 R.length (junk R z).length, .fn 29 [.ro f.row 0, .ro c.row 0, .ro [.dmap (mkD E)] 0]] [(0, .rows 1 (junk R z) (some []))] (.osl 0 0 0 (keepR f c.cells i R).length (junk R z).length) [(0, .rows 1 (junk (keepR f c.cells i R) (R.length + z - (keepR f c.cells i R).length)) (some []))] := by
  have hl := junk_len R z
  have htk0 := junk_take R z
  have sp1 := indexRow_spec f c E i b j hE R hR
  rw [← htk0] at sp1
  refine gEn env Tryd.func28 fun Γ hN hK hML => ?_
  (refine gGo ?_; intros)
  refine ⟨_, _, _, callG [] [] [0] rfl rfl rfl (by kernel_rfl) sp1 ⟨Lent.osl 0 0 R.length (junk R z).length 1 (junk R z) (some []) rfl rfl rfl (.inl rfl), Lent.refl _, trivial⟩ rfl ⟨rfl, rfl, rfl, rfl, rfl, trivial, rfl, rfl⟩, ?_⟩
  conv => whnf
  (refine gGo ?_; intros)
  rcases ixFrom_cases (dropB f c.cells i) R 0 with ⟨h1, h2⟩ | ⟨i0, hi, h1, h2⟩
  · have hk : keepR f c.cells i R = R := by
      unfold keepR
      rw [List.filter_eq_self]
      intro x hx
      have := List.any_eq_false.1 h2 x hx
      simpa using this
    rw [hk, h1, show R.length + z - R.length = z by omega]
    (refine gGr ?_; intros)
    exact retH rfl (.refl _) rfl rfl rfl ⟨rfl, rfl, trivial⟩
  · have hft := ixFrom_take (dropB f c.cells i) R 0 i0 hi h1
    rw [Nat.zero_add] at h1
    rw [h1]
    (refine gGo ?_; intros)
    refine W.loopG (fun n st => ∃ (jj q : Nat) (Rc : List (List Nat)), jj ≤ R.length ∧ q < jj ∧ q = (keepR f c.cells i (R.take jj)).length ∧ Rc.length = R.length ∧ Rc.take q = keepR f c.cells i (R.take jj) ∧ Rc.drop jj = R.drop jj ∧ n = R.length - jj ∧ st = ⟨[(0, .osl 0 0 0 R.length (junk R z).length), (1, .fn 29 [.ro f.row 0, .ro c.row 0, .ro [.dmap (mkD E)] 0]), (5, .int .i64 q), (6, .int .i64 jj)], [(0, [.rows 1 (junk Rc z) (some [])])], [0]⟩)
      (R.length - (i0 + 1)) _ ⟨i0 + 1, i0, R, by omega, by omega, by unfold keepR; rw [hft]; simp; omega, rfl, by unfold keepR; rw [hft], rfl, rfl, rfl⟩ ⟨[(0, 0)], [], [], .mq (.ci 0 .nil)⟩ ?_
    rintro n st ⟨jj, q, Rc, hj, hqj, hq, hrl, htk, hdr, rfl, rfl⟩
    have hRl := junk_len Rc z
    (refine gGo ?_; intros)
    refine boolRes_split (fun hb => ?_) (fun hb => ?_) <;> conv => whnf
    · have hlt : jj < R.length := by omega
      have hlk : (keepR f c.cells i (R.take (jj + 1))) = if dropB f c.cells i R[jj] = true then keepR f c.cells i (R.take jj) else keepR f c.cells i (R.take jj) ++ [R[jj]] := by
        unfold keepR
        rw [List.take_succ_eq_append_getElem hlt, List.filter_append]
        by_cases h : dropB f c.cells i R[jj] = true <;> simp [h]
      have hget : (junk Rc z)[jj]? = some [.sl (natRows R[jj]) false] := by
        have h3 : (Rc.drop jj)[0]? = (R.drop jj)[0]? := by rw [hdr]
        simp only [List.getElem?_drop, Nat.add_zero] at h3
        have hjR : jj < Rc.length := by omega
        rw [List.getElem?_eq_getElem hlt, List.getElem?_eq_getElem hjR] at h3
        rw [junk_get hjR, Option.some.inj h3]
      have hdr2 : Rc.drop (jj + 1) = R.drop (jj + 1) := by
        have h3 := congrArg (List.drop 1) hdr
        simpa [List.drop_drop] using h3
      have hmm := hR _ (List.getElem_mem hlt)
      have sp2 := kept1_spec f c E i b j R[jj] hE hmm.1 hmm.2
      generalize R[jj] = x at *
      (refine gGo ?_; intros)
      refine rowAt_of (by simpa using hget) ?_
      conv => whnf
      (refine gGo ?_; intros)
      cases h3 : dropB f c.cells i x with
      | true =>
        rw [h3] at sp2 hlk
        rw [if_pos rfl] at hlk
        (refine gPC (sp2) ?_; conv => whnf)
        (refine gGo ?_; intros)
        refine ⟨_, _, ?_, ⟨jj + 1, q, Rc, by omega, by omega, by rw [hlk]; exact hq, hrl, by rw [hlk]; exact htk, hdr2, rfl, rfl⟩, ⟨[(0, 0)], [], [], .mq (.ci 0 .nil)⟩⟩
        omega
      | false =>
        rw [h3] at sp2 hlk
        rw [if_neg (by simp)] at hlk
        (refine gPC (sp2) ?_; conv => whnf)
        (refine gGo ?_; intros)
        have hqR : q < Rc.length := by omega
        have hq2 := junk_get (z := z) hqR
        have hset := junk_set (z := z) (x := x) hqR
        generalize Rc[q] = y at *
        refine rowAt_of (by simpa using hq2) ?_
        conv => whnf
        (refine gGo ?_; intros)
        refine ⟨_, _, ?_, ⟨jj + 1, q + 1, Rc.set q x, by omega, by omega, by rw [hlk]; simp; omega, by simp; omega, by
          rw [hlk, ← htk, List.take_succ_eq_append_getElem (by simpa using hqR), List.getElem_set_self, List.take_set, List.set_eq_of_length_le (by simp; omega)], by rw [List.drop_set_of_lt (by omega)]; exact hdr2, rfl, rfl⟩, [(0, 0)], [], [], LeG.mq (.cons 0 rfl rfl (.refl _) (by rw [← hset, show 0 + (q : Int).toNat = q by omega]; rfl) .nil)⟩
        omega
    · have hje : jj = R.length := by omega
      rw [hje, List.take_length] at hq htk
      have hqR : q ≤ R.length := by omega
      have hjk : junk (keepR f c.cells i R) (R.length + z - q) = (junk Rc z).take (0 + (q : Int).toNat) ++ (List.replicate ((R.length : Int).toNat - (q : Int).toNat) [V.nils] ++ (junk Rc z).drop (0 + (q : Int).toNat + ((R.length : Int).toNat - (q : Int).toNat))) := by
        have h1 : 0 + (q : Int).toNat = q := by omega
        have h2 : ((R.length : Int)).toNat = R.length := by omega
        have h3 : (junk Rc z).drop (q + (R.length - q)) = List.replicate z [V.nils] := by
          unfold junk
          rw [show q + (R.length - q) = (rowRows Rc).length by rw [rowRows_len]; omega, List.drop_left]
        have h4 : (junk Rc z).take q = rowRows (Rc.take q) := by
          unfold junk
          rw [List.take_append_of_le_length (by rw [rowRows_len]; omega)]
          unfold rowRows
          rw [List.map_take]
        rw [h1, h2, Int.toNat_natCast, h3, h4, htk, List.replicate_append_replicate, show R.length - q + z = R.length + z - q by omega]; rfl
      rw [← hq, hjk]
      (refine gGo ?_; intros)
      refine ⟨by rw [← hjk, junk_len, junk_len, ← hq]; omega, ⟨by omega, by omega, by omega⟩, ?_⟩
      conv => whnf
      (refine gGo ?_; intros)
      (refine gM ?_; conv => whnf)
      exact retH rfl (.refl _) rfl rfl rfl ⟨rfl, rfl, trivial⟩
end Go.Sx.Sp
namespace Go.Sx.Sp
open Go Go.Sx Go.Proofs
attribute [local irreducible] GoodW famL
def plcG : Nat → List Int → List (Nat × V × V)
  | _, [] => []
  | k, t :: l => (k, .int .i64 t, .int .i64 k) :: plcG (k + 1) l
theorem plcG_at (s : Int) : ∀ (T : List Int) (k : Nat), mapAt (.int .i64 s) (plcG k T) = some ((ixI s T).map fun i => (i, k + i, .int .i64 ((k + i : Nat) : Int)))
  | [], k => rfl
  | u :: T, k => by
    by_cases h : s = u
    · subst h
      simp [plcG, mapAt, eqKey, ixI]
    · have := plcG_at s T (k + 1)
      simp only [plcG, mapAt, eqKey, h, decide_false, this, ixI, if_false]
      cases ixI s T with
      | none => simp
      | some i =>
        simp only [Option.map_some]
        rw [show k + 1 + i = k + (i + 1) by omega]
        simp
theorem plcG_snoc (s : Int) : ∀ (T : List Int) (k : Nat), plcG k (T ++ [s]) = plcG k T ++ [(k + T.length, .int .i64 s, .int .i64 ((k + T.length : Nat) : Int))]
  | [], k => rfl
  | p :: T, k => by
    simp only [List.cons_append, plcG, plcG_snoc s T (k + 1), List.length_cons]
    rw [show k + 1 + T.length = k + (T.length + 1) by omega]
def colC (l : List Table) (r : Rf) : Column := (getC l r.t r.c).getD Column.zero
def plcI (p : Pth) (t : Int) : Nat := placeI (tabsI p) t
theorem tabsI_len (p : Pth) : (tabsI p).length = p.steps.length + 1 := befT_len p (Nat.le_refl _)
theorem tabN_bef (l : List Table) (p : Pth) {i : Nat} (h : i ≤ p.steps.length) : tabN l p i = tabOf l ((tabsI p).getD i 0) := by
  cases i with
  | zero => rfl
  | succ q =>
    have hq : q < p.steps.length := by omega
    have : (tabsI p).getD (q + 1) 0 = (stpAt p q).tt := by
      unfold tabsI befT stpAt
      rw [List.take_length]
      simp [hq]
    rw [this]
    rfl
theorem bef_nodup {l : List Table} {p : Pth} (h : validE l p = 0) : ∀ j, j ≤ p.steps.length → (befT p j).Nodup
  | 0, _ => by simp [befT]
  | j + 1, hj => by
    have hjl : j < p.steps.length := by omega
    have hsf := pathB_step (valid_path h).2.2 hjl
    rw [befT_snoc p hjl, List.nodup_append]
    refine ⟨bef_nodup h j (by omega), by simp, fun a ha b hb => ?_⟩
    rw [List.mem_singleton.1 hb]
    intro e
    have := hsf.new
    rw [show stpAt p j = p.steps[j] by simp [stpAt, hjl]] at this
    exact this (e ▸ ha)
theorem has_facts {l : List Table} {p : Pth} (h : validE l p = 0) {r : Rf} (hr : hasB l p r = true) : ∃ i, ixI r.t (tabsI p) = some i ∧ plcI p r.t = i ∧ i ≤ p.steps.length ∧ (tabsI p)[i]? = some r.t ∧ tabOf l r.t = tabN l p i ∧ ∃ hc : r.c.toNat < (tabN l p i).cols.length, 0 ≤ r.c ∧ colC l r = (tabN l p i).cols[r.c.toNat] ∧ (colC l r).cells.length = rowsN (tabN l p i) := by
  unfold hasB at hr
  rw [Bool.and_eq_true, decide_eq_true_iff] at hr
  cases hx : ixI r.t (tabsI p) with
  | none => exact absurd hr.2 (ixI_none.1 hx)
  | some i =>
    have hi := ixI_lt hx
    rw [tabsI_len] at hi
    have hat := ixI_at hx
    have htn : tabOf l r.t = tabN l p i := by
      rw [tabN_bef l p (by omega), List.getD_eq_getElem?_getD, hat]; rfl
    have hgc := getC_some hr.1
    rw [htn] at hgc
    have hcl : r.c.toNat < (tabN l p i).cols.length := by omega
    have hcc : colC l r = (tabN l p i).cols[r.c.toNat] := by
      unfold colC
      have h1 := hr.1
      unfold getC at h1 ⊢
      unfold tabOf at htn
      cases hf : findT l r.t with
      | none => rw [hf] at h1; simp at h1
      | some tb =>
        rw [hf] at htn
        simp only [Option.getD_some] at htn
        subst htn
        simp only
        rw [if_pos ⟨hgc.1, by omega⟩, List.getElem?_eq_getElem hcl]; rfl
    refine ⟨i, rfl, by unfold plcI placeI; rw [hx]; rfl, by omega, hat, htn, hcl, hgc.1, hcc, ?_⟩
    rw [hcc]
    exact (validB_rows (tabN_ok h (by omega))).2 _ (List.getElem_mem hcl)
def keptR (l : List Table) (v : Vw) (k : Nat) : List (List Nat) := (v.fs.take k).foldl (fun R f => keepR f (colC l f.r).cells (plcI v.path f.r.t) R) (rowsL l v.path)
theorem keptR_succ (l : List Table) (v : Vw) {k : Nat} (h : k < v.fs.length) : keptR l v (k + 1) = keepR v.fs[k] (colC l v.fs[k].r).cells (plcI v.path v.fs[k].r.t) (keptR l v k) := by
  unfold keptR
  rw [List.take_succ_eq_append_getElem h, List.foldl_append]; rfl
theorem keptR_mem (l : List Table) (v : Vw) {r : List Nat} : ∀ k, r ∈ keptR l v k → r ∈ rowsL l v.path
  | 0, h => h
  | k + 1, h => by
    by_cases hk : k < v.fs.length
    · rw [keptR_succ l v hk] at h
      exact keptR_mem l v k (List.mem_filter.1 h).1
    · refine keptR_mem l v k ?_
      unfold keptR at h ⊢
      rwa [List.take_of_length_le (by omega), ← List.take_of_length_le (show v.fs.length ≤ k by omega)] at h
theorem keptR_le (l : List Table) (v : Vw) : ∀ k, (keptR l v k).length ≤ (rowsL l v.path).length
  | 0 => Nat.le_refl _
  | k + 1 => by
    have ih := keptR_le l v k
    by_cases hk : k < v.fs.length
    · rw [keptR_succ l v hk]
      have := keepR_le v.fs[k] (colC l v.fs[k].r).cells (plcI v.path v.fs[k].r.t) (keptR l v k)
      omega
    · unfold keptR at ih ⊢
      rwa [List.take_of_length_le (by omega), ← List.take_of_length_le (show v.fs.length ≤ k by omega)]
theorem validV_facts {l : List Table} {v : Vw} (h : validV l v = 0) : validE l v.path = 0 ∧ v.fs.length ≤ 8 ∧ v.cs.length ≤ 64 ∧ (∀ f ∈ v.fs, hasB l v.path f.r = true ∧ properB f = true) ∧ ∀ r ∈ v.cs, hasB l v.path r = true := by
  unfold validV at h
  split at h
  · rename_i h0
    split at h
    · rename_i h1
      split at h
      · rename_i h2
        split at h
        · rename_i h3
          refine ⟨h0, h1.1, h1.2, fun f hf => ⟨?_, ?_⟩, fun r hr => ?_⟩
          · have := List.any_eq_false.1 h2.1 f hf
            simpa [nhF] using this
          · have := List.any_eq_false.1 h3 f hf
            simpa [npB] using this
          · have := List.any_eq_false.1 h2.2 r hr
            simpa [nhR] using this
        · cases h
      · cases h
    · cases h
  · rename_i h0
    exact absurd h h0
end Go.Sx.Sp
namespace Go.Sx.Sp
open Go Go.Sx Go.Proofs
attribute [local irreducible] GoodW famL
set_option maxHeartbeats 16000000 in
theorem kept_ok {l : List Table} {v : Vw} (h0 : validV l v = 0) (hp0 : planE l v.path = 0) : Spec Tryd.prog 19 [.sl (tblRows l) false, .agg v.row] [] (.tup [.sl (rowRows (keptR l v v.fs.length)) false, .dmap (mkD (plcG 0 (tabsI v.path))), .int .i64 0]) [] := by
  obtain ⟨hv, hf8, hc64, hfs, hcs⟩ := validV_facts h0
  have h4 := (valid_path hv).2.1
  have hsm := listB_small (valid_path hv).1
  have sp1 := validV_spec l v
  rw [h0] at sp1
  have sp2 := rowsJ_own hp0
  have sp3 := vtables_spec v.path (by omega)
  have hti := intRows_len .i64 (tabsI v.path)
  have htl := tabsI_len v.path
  have hnd := bef_nodup hv v.path.steps.length (Nat.le_refl _)
  change (tabsI v.path).Nodup at hnd
  have hR4 := (planE_ok hp0).2
  have hrl := rowRows_len (rowsL l v.path)
  have hfl := fltRows_len v.fs
  refine gEn env Tryd.func19 fun Γ hN hK hML => ?_
  refine gA ?_
  (refine gE env hN (by kernel_rfl) ?_; conv => whnf)
  (refine gGs ?_; intros)
  refine W.leG (mp := []) (bo := [3]) (st' := ⟨[(0, .sl (tblRows l) false), (3, .ro v.row 0)], [], []⟩)
    (LeG.mk' rfl rfl rfl ⟨⟨_, .refl _, rfl⟩, ⟨_, .bp 3 0 4 v.row none rfl rfl (by simp [Vw.row]) (.inr rfl), rfl⟩, trivial⟩ .nil rfl rfl (by rw [hK]; rfl)) ?_
  (refine gGo ?_; intros)
  (refine gPC (sp1) ?_; conv => whnf)
  (refine gGo ?_; intros)
  (refine gCA [] [(95, 95)] [] (sp2) ?_; conv => whnf)
  (refine gGo ?_; intros)
  (refine gPC (sp3) ?_; conv => whnf)
  (refine gGo ?_; intros)
  generalize hT : tabsI v.path = TT at *
  refine W.leG (mp := [(10, 10), (33, 33), (95, 95)]) (bo := []) (st' := ⟨[(0, .sl (tblRows l) false), (3, .ro v.row 0), (8, .osl 95 0 0 (rowRows (rowsL l v.path)).length (rowRows (rowsL l v.path)).length), (10, .bp 10 0), (36, .sl (intRows .i64 TT) false), (37, .int .i64 (intRows .i64 TT).length), (38, .int .i64 (0 : Nat))], [(10, [.rows 1 [[.omap 33 0]] none]), (33, [.map (plcG 0 (TT.take (0))) (0) (some [])]), (95, [.rows 1 (rowRows (rowsL l v.path)) (some [])])], [10, 33, 95]⟩)
    (LeG.mq (.ci 10 (.ci 33 (.ci 95 .nil)))) ?_
  refine W.loopG (fun m st => ∃ k : Nat, k ≤ TT.length ∧ m = TT.length - k ∧ st = ⟨[(0, .sl (tblRows l) false), (3, .ro v.row 0), (8, .osl 95 0 0 (rowRows (rowsL l v.path)).length (rowRows (rowsL l v.path)).length), (10, .bp 10 0), (36, .sl (intRows .i64 TT) false), (37, .int .i64 (intRows .i64 TT).length), (38, .int .i64 k)], [(10, [.rows 1 [[.omap 33 0]] none]), (33, [.map (plcG 0 (TT.take (k))) (k) (some [])]), (95, [.rows 1 (rowRows (rowsL l v.path)) (some [])])], [10, 33, 95]⟩)
    TT.length _ ⟨0, by omega, by omega, rfl⟩ ⟨[(10, 10), (33, 33), (95, 95)], [], [], .mq (.ci 10 (.ci 33 (.ci 95 .nil)))⟩ ?_
  rintro m st ⟨k, hk, rfl, rfl⟩
  (refine gGo ?_; intros)
  refine boolRes_split (fun hb => ?_) (fun hb => ?_) <;> conv => whnf
  · have hlt : k < TT.length := by omega
    have hg := intRows_get (k := .i64) hlt
    have htk : (TT.take k).length = k := by rw [List.length_take]; omega
    have hni : TT[k] ∉ TT.take k := fun hm => by
      obtain ⟨q, hq, he⟩ := List.mem_iff_getElem.1 hm
      rw [List.getElem_take] at he
      have := (List.getElem_inj hnd).1 he
      omega
    have hat : mapAt (.int .i64 TT[k]) (plcG 0 (TT.take k)) = some none := by rw [plcG_at, ixI_none.2 hni]; rfl
    have hsn : plcG 0 (TT.take (k + 1)) = plcG 0 (TT.take k) ++ [(k, .int .i64 TT[k], .int .i64 (k : Nat))] := by
      rw [List.take_succ_eq_append_getElem hlt, plcG_snoc, htk, Nat.zero_add]
    generalize TT[k] = s at *
    (refine gGo ?_; intros)
    refine rowAt_of (by simpa using hg) ?_
    conv => whnf
    (refine gGo ?_; intros)
    refine ⟨none, hat, ?_⟩
    conv => whnf
    (refine gGo ?_; intros)
    refine ⟨_, _, ?_, ⟨k + 1, by omega, rfl, rfl⟩, [(10, 10), (33, 33), (95, 95)], [], [], LeG.mq (.ci 10 (.cons 33 rfl rfl (.refl _) (by rw [hsn]; rfl) (.ci 95 .nil)))⟩
    omega
  · have hke : k = TT.length := by omega
    rw [hke, List.take_length]
    (refine gGs ?_; intros)
    refine gA ?_
    refine gD rfl ?_
    refine gG ?_
    conv => whnf
    refine W.leG (mp := [(10, 10), (95, 95)]) (bo := [33]) (st' := ⟨[(0, .sl (tblRows l) false), (3, .ro v.row 0), (8, .osl 95 0 0 (rowRows (rowsL l v.path)).length (rowRows (rowsL l v.path)).length), (10, .bp 10 0)], [(10, [.rows 1 [[.dmap (mkD (plcG 0 TT))]] none]), (95, [.rows 1 (rowRows (rowsL l v.path)) (some [])])], [10, 95]⟩)
      (LeG.mq (.cons 10 (b1 := .rows 1 [[.dmap (mkD (plcG 0 TT))]] none) rfl rfl (.rows _ _ _ (by repeat' (first | exact trivial | exact ⟨Lent.omapF 33 0 (plcG 0 TT) TT.length (some []) rfl rfl (.inl rfl), rfl⟩ | apply And.intro))) rfl (.ci 95 .nil))) ?_
    have hj0 : junk (rowsL l v.path) 0 = rowRows (rowsL l v.path) := List.append_nil _
    have hk0 : keptR l v 0 = rowsL l v.path := rfl
    obtain ⟨N0, hN0⟩ : ∃ N0, N0 = (rowsL l v.path).length := ⟨_, rfl⟩
    refine W.leG (mp := [(95, 95)]) (bo := [10]) (st' := ⟨[(0, .sl (tblRows l) false), (3, .ro v.row 0), (8, .osl 95 0 0 (keptR l v 0).length N0), (10, .ro [.dmap (mkD (plcG 0 TT))] 0)], [(95, [.rows 1 (junk (keptR l v 0) (N0 - (keptR l v 0).length)) (some [])])], [95]⟩)
      (LeG.mk' rfl rfl rfl ⟨⟨_, .refl _, rfl⟩, ⟨_, .refl _, rfl⟩, ⟨_, .refl _, by rw [hk0, hN0, hrl]; rfl⟩, ⟨_, .bp 10 0 1 [.dmap (mkD (plcG 0 TT))] none rfl rfl (by simp) (.inr rfl), rfl⟩, trivial⟩ (.cons 95 rfl rfl (.refl _) (by rw [hk0, hN0, Nat.sub_self, hj0]; rfl) .nil) rfl rfl (by rw [hK]; rfl)) ?_
    have hkl := fun k => keptR_le l v k
    rw [← hN0] at hkl hR4
    (refine gGo ?_; intros)
    refine W.loopG (fun m st => ∃ k : Nat, k ≤ v.fs.length ∧ m = v.fs.length - k ∧ st = ⟨[(0, .sl (tblRows l) false), (3, .ro v.row 0), (8, .osl 95 0 0 (keptR l v (k)).length N0), (10, .ro [.dmap (mkD (plcG 0 TT))] 0), (48, .sl (fltRows v.fs) false), (49, .int .i64 (fltRows v.fs).length), (50, .int .i64 (k : Nat))], [(95, [.rows 1 (junk (keptR l v (k)) (N0 - (keptR l v (k)).length)) (some [])])], [95]⟩)
      v.fs.length _ ⟨0, by omega, by omega, rfl⟩ ⟨[(95, 95)], [], [], .mq (.ci 95 .nil)⟩ ?_
    rintro m st ⟨k, hk, rfl, rfl⟩
    (refine gGo ?_; intros)
    refine boolRes_split (fun hb => ?_) (fun hb => ?_) <;> conv => whnf
    · have hlt : k < v.fs.length := by omega
      have hg := fltRows_get hlt
      have hsn := keptR_succ l v hlt
      obtain ⟨i, hx1, hx2, hx3, hx4, hx5, hx6, hx7, hx8, hx9⟩ := has_facts hv (hfs _ (List.getElem_mem hlt)).1
      have spG := getC_spec l v.fs[k].r.t v.fs[k].r.c hsm
      rw [show (getC l v.fs[k].r.t v.fs[k].r.c).getD Column.zero = colC l v.fs[k].r from rfl] at spG
      have hsub : ∀ r ∈ keptR l v k, i < r.length ∧ r.getD i 0 < (colC l v.fs[k].r).cells.length := fun r hr => by
        obtain ⟨g1, g2⟩ := rowsL_mem (keptR_mem l v k hr)
        refine ⟨by omega, ?_⟩
        rw [hx9]
        exact g2.lt i (by omega)
      have spD := deleteR_spec v.fs[k] (colC l v.fs[k].r) (plcG 0 TT) i i i (by rw [← hT, plcG_at, hx1]; simp) (keptR l v k) hsub (N0 - (keptR l v k).length) (by have := hkl k; omega)
      have hjl := junk_len (keptR l v k) (N0 - (keptR l v k).length)
      rw [show (keptR l v k).length + (N0 - (keptR l v k).length) = N0 by have := hkl k; omega] at spD hjl
      rw [hjl] at spD
      rw [hx2] at hsn
      rw [← hsn] at spD
      generalize (getC l v.fs[k].r.t v.fs[k].r.c).isSome = bb at *
      generalize colC l v.fs[k].r = c at *
      generalize v.fs[k] = f at *
      (refine gGo ?_; intros)
      refine rowAt_of (by simpa using hg) ?_
      conv => whnf
      (refine gGo ?_; intros)
      (refine gPC (spG) ?_; conv => whnf)
      (refine gGs ?_; intros)
      refine W.leG (mp := [(95, 95)]) (bo := [14, 15]) (st' := ⟨[(0, .sl (tblRows l) false), (3, .ro v.row 0), (14, .ro f.row 0), (15, .ro c.row 0), (8, .osl 95 0 0 (keptR l v (k)).length N0), (10, .ro [.dmap (mkD (plcG 0 TT))] 0), (48, .sl (fltRows v.fs) false), (49, .int .i64 (fltRows v.fs).length), (50, .int .i64 (k : Nat))], [(95, [.rows 1 (junk (keptR l v (k)) (N0 - (keptR l v (k)).length)) (some [])])], [95]⟩)
        (LeG.mk' rfl rfl rfl ⟨⟨_, .refl _, rfl⟩, ⟨_, .refl _, rfl⟩, ⟨_, .bp 14 0 4 f.row none rfl rfl (by simp [Flt.row]) (.inr rfl), rfl⟩, ⟨_, .bp 15 0 2 c.row none rfl rfl (by simp [Column.row]) (.inr rfl), rfl⟩, ⟨_, .refl _, rfl⟩, ⟨_, .refl _, rfl⟩, ⟨_, .refl _, rfl⟩, ⟨_, .refl _, rfl⟩, ⟨_, .refl _, rfl⟩, trivial⟩ (.ci 95 .nil) rfl rfl (by rw [hK]; rfl)) ?_
      (refine gGo ?_; intros)
      (refine gCA [(0, 95)] [] [] (spD) ?_; conv => whnf)
      (refine gGo ?_; intros)
      refine ⟨_, _, ?_, ⟨k + 1, by omega, rfl, rfl⟩, ⟨[(95, 95)], [], [], .mq (.ci 95 .nil)⟩⟩
      omega
    · have hke : k = v.fs.length := by omega
      rw [hke]
      (refine gGo ?_; intros)
      have hjl := junk_len (keptR l v v.fs.length) (N0 - (keptR l v v.fs.length).length)
      have hke2 := hkl v.fs.length
      have hjl2 : N0 = (junk (keptR l v v.fs.length) (N0 - (keptR l v v.fs.length).length)).length := by omega
      refine W.leG (mp := []) (bo := [95]) (st' := ⟨[(4, .sl (rowRows (keptR l v v.fs.length)) false), (5, .dmap (mkD (plcG 0 TT))), (6, .int .i64 0)], [], []⟩)
        (LeG.mk' rfl rfl rfl ⟨⟨.sl (rowRows (keptR l v v.fs.length)) false, (by rw [← junk_take _ (N0 - (keptR l v v.fs.length).length)]; exact Lent.osl 95 0 _ N0 1 _ (some []) rfl rfl hjl2 (.inl rfl)), rfl⟩, ⟨_, .refl _, rfl⟩, ⟨_, .refl _, rfl⟩, trivial⟩ .nil rfl rfl (by rw [hK]; rfl)) ?_
      (refine gM ?_; conv => whnf)
      exact ret0 rfl rfl rfl
def keptE (l : List Table) (v : Vw) : Int := if validV l v = 0 then planE l v.path else validV l v
theorem kept_err {l : List Table} {v : Vw} (h : keptE l v ≠ 0) : Spec Tryd.prog 19 [.sl (tblRows l) false, .agg v.row] [] (.tup [.sl [] false, .nilm, .int .i64 (keptE l v)]) [] := by
  have sp1 := validV_spec l v
  unfold keptE at h ⊢
  by_cases h0 : validV l v = 0
  · rw [if_pos h0] at h ⊢
    rw [h0] at sp1
    have sp2 := rowsJ_err h
    generalize planE l v.path = e at *
    refine gEn env Tryd.func19 fun Γ hN hK hML => ?_
    (refine gGo ?_; intros)
    (refine gPC (sp1) ?_; conv => whnf)
    (refine gGo ?_; intros)
    (refine gPC (sp2) ?_; conv => whnf)
    (refine gGr ?_; intros)
    exact ret0 rfl rfl rfl
  · rw [if_neg h0] at h ⊢
    generalize validV l v = e at *
    refine gEn env Tryd.func19 fun Γ hN hK hML => ?_
    (refine gGo ?_; intros)
    (refine gPC (sp1) ?_; conv => whnf)
    (refine gGr ?_; intros)
    exact ret0 rfl rfl rfl
end Go.Sx.Sp
namespace Go.Sx.Sp
open Go Go.Sx Go.Proofs
attribute [local irreducible] GoodW famL
def shownC (l : List Table) (v : Vw) (K : List (List Nat)) (r : Rf) : Column := ⟨(colC l r).name, K.map fun row => (colC l r).cells.getD (row.getD (plcI v.path r.t) 0) cell0⟩
def shownT (l : List Table) (v : Vw) : Table := ⟨(tabOf l v.path.start).id, (tabOf l v.path.start).name, v.cs.map (shownC l v (keptR l v v.fs.length))⟩
def evalV (l : List Table) (v : Vw) : Table × Int := if keptE l v = 0 then (shownT l v, 0) else (Table.zero, keptE l v)
theorem keptE_zero {l : List Table} {v : Vw} (h : keptE l v = 0) : validV l v = 0 ∧ planE l v.path = 0 := by
  unfold keptE at h
  by_cases h0 : validV l v = 0
  · rw [if_pos h0] at h; exact ⟨h0, h⟩
  · rw [if_neg h0] at h; exact absurd h h0
set_option maxHeartbeats 16000000 in
theorem evalV_spec (l : List Table) (v : Vw) : Spec Tryd.prog 11 [.sl (tblRows l) false, .agg v.row] [] (.tup [.agg (evalV l v).1.row, .int .i64 (evalV l v).2]) [] := by
  have hrl := rfRows_len v.cs
  unfold evalV
  by_cases h : keptE l v = 0
  · rw [if_pos h]
    obtain ⟨h0, hp0⟩ := keptE_zero h
    have sp := kept_ok h0 hp0
    obtain ⟨hv, hf8, hc64, hfs, hcs⟩ := validV_facts h0
    have hsm := listB_small (valid_path hv).1
    have hR4 := (planE_ok hp0).2
    have hkl := keptR_le l v v.fs.length
    have hmem : ∀ r ∈ keptR l v v.fs.length, r.length = v.path.steps.length + 1 ∧ ∀ i, i ≤ v.path.steps.length → r.getD i 0 < rowsN (tabN l v.path i) := fun r hr => by
      obtain ⟨g1, g2⟩ := rowsL_mem (keptR_mem l v _ hr)
      exact ⟨g1, fun i hi => g2.lt i (by omega)⟩
    have sp2 := findC_spec l v.path.start hsm
    rw [show (findT l v.path.start).getD Table.zero = tabOf l v.path.start from rfl] at sp2
    generalize (findT l v.path.start).isSome = b0 at *
    have hsh : shownT l v = ⟨(tabOf l v.path.start).id, (tabOf l v.path.start).name, v.cs.map (shownC l v (keptR l v v.fs.length))⟩ := rfl
    rw [hsh]
    clear hsh
    generalize tabOf l v.path.start = t0 at *
    obtain ⟨SC, hSC⟩ : ∃ SC, SC = shownC l v (keptR l v v.fs.length) := ⟨_, rfl⟩
    rw [← hSC]
    generalize keptR l v v.fs.length = K at *
    have hKl := rowRows_len K
    have hrow : Table.row ⟨t0.id, t0.name, v.cs.map SC⟩ = [.int .i64 t0.id, .str t0.name, .sl (colRows (v.cs.map SC)) false] := rfl
    rw [hrow]
    refine gEn env Tryd.func11 fun Γ hN hK hML => ?_
    (refine gGo ?_; intros)
    (refine gPC (sp) ?_; conv => whnf)
    (refine gGo ?_; intros)
    (refine gPC (sp2) ?_; conv => whnf)
    (refine gGo ?_; intros)
    refine W.ownCell 11 0 2 93 2 rfl rfl rfl rfl rfl ?_
    refine W.leG (mp := [(4, 4), (11, 11), (93, 93)]) (bo := []) (st' := ⟨[(0, .sl (tblRows l) false), (4, .bp 4 0), (6, .sl (rowRows K) false), (7, .dmap (mkD (plcG 0 (tabsI v.path)))), (11, .bp 11 0), (44, .sl (rfRows v.cs) false), (45, .int .i64 (rfRows v.cs).length), (46, .int .i64 (0 : Nat))], [(4, [.rows 3 [[.int .i64 0, .str [], .nils]] none]), (11, [.rows 3 [[.int .i64 t0.id, .str t0.name, .osl 93 0 0 (colRows ((v.cs.take 0).map SC)).length (colRows ((v.cs.take 0).map SC)).length]] none]), (93, [.rows 2 (colRows ((v.cs.take 0).map SC)) (some [])])], [4, 11, 93]⟩)
      (LeG.mq (.ci 4 (.ci 11 (.ci 93 .nil)))) ?_
    refine W.loopG (fun m st => ∃ q : Nat, q ≤ v.cs.length ∧ m = v.cs.length - q ∧ st = ⟨[(0, .sl (tblRows l) false), (4, .bp 4 0), (6, .sl (rowRows K) false), (7, .dmap (mkD (plcG 0 (tabsI v.path)))), (11, .bp 11 0), (44, .sl (rfRows v.cs) false), (45, .int .i64 (rfRows v.cs).length), (46, .int .i64 q)], [(4, [.rows 3 [[.int .i64 0, .str [], .nils]] none]), (11, [.rows 3 [[.int .i64 t0.id, .str t0.name, .osl 93 0 0 (colRows ((v.cs.take q).map SC)).length (colRows ((v.cs.take q).map SC)).length]] none]), (93, [.rows 2 (colRows ((v.cs.take q).map SC)) (some [])])], [4, 11, 93]⟩)
      v.cs.length _ ⟨0, by omega, by omega, rfl⟩ ⟨[(4, 4), (11, 11), (93, 93)], [], [], .mq (.ci 4 (.ci 11 (.ci 93 .nil)))⟩ ?_
    rintro m st ⟨q, hq, rfl, rfl⟩
    (refine gGo ?_; intros)
    refine boolRes_split (fun hb => ?_) (fun hb => ?_) <;> conv => whnf
    · have hql : q < v.cs.length := by omega
      have hgq := rfRows_get hql
      obtain ⟨i, hx1, hx2, hx3, hx4, hx5, hx6, hx7, hx8, hx9⟩ := has_facts hv (hcs _ (List.getElem_mem hql))
      have hE : mapAt (.int .i64 v.cs[q].t) (plcG 0 (tabsI v.path)) = some (some (i, i, .int .i64 i)) := by rw [plcG_at, hx1]; simp
      have spG := getC_spec l v.cs[q].t v.cs[q].c hsm
      rw [show (getC l v.cs[q].t v.cs[q].c).getD Column.zero = colC l v.cs[q] from rfl] at spG
      have hsn : (v.cs.take (q + 1)).map SC = (v.cs.take q).map SC ++ [⟨(colC l v.cs[q]).name, K.map fun row => (colC l v.cs[q]).cells.getD (row.getD i 0) cell0⟩] := by
        rw [List.take_succ_eq_append_getElem hql, List.map_append, hSC]
        show _ = _ ++ [_]
        unfold shownC
        simp only [List.map_cons, List.map_nil, hx2]
      have hCt : ((v.cs.take q).map SC).length ≤ 64 := by rw [List.length_map, List.length_take]; omega
      have hlt2 : ∀ r ∈ K, i < r.length ∧ r.getD i 0 < (colC l v.cs[q]).cells.length := fun r hr => by
        obtain ⟨g1, g2⟩ := hmem r hr
        refine ⟨by omega, ?_⟩
        rw [hx9]; exact g2 i hx3
      clear hx4 hx5 hx9
      clear hx6 hx7 hx8
      generalize (getC l v.cs[q].t v.cs[q].c).isSome = bb at *
      generalize colC l v.cs[q] = c at *
      generalize (v.cs.take q).map SC = C0 at *
      generalize v.cs[q] = r at *
      have hC0 := colRows_len C0
      have hcc := cellRows_len c.cells
      (refine gGo ?_; intros)
      refine rowAt_of (by simpa using hgq) ?_
      conv => whnf
      (refine gGo ?_; intros)
      (refine gPC (spG) ?_; conv => whnf)
      (refine gGo ?_; intros)
      refine W.ownCell 16 0 1 94 2 rfl rfl rfl rfl rfl ?_
      refine W.leG (mp := [(4, 4), (11, 11), (93, 93), (16, 16), (94, 94)]) (bo := [13, 14]) (st' := ⟨[(0, .sl (tblRows l) false), (4, .bp 4 0), (6, .sl (rowRows K) false), (7, .dmap (mkD (plcG 0 (tabsI v.path)))), (11, .bp 11 0), (44, .sl (rfRows v.cs) false), (45, .int .i64 (rfRows v.cs).length), (13, .ro r.row 0), (14, .ro c.row 0), (16, .bp 16 0), (46, .int .i64 q), (59, .sl (rowRows K) false), (60, .int .i64 (rowRows K).length), (61, .int .i64 (0 : Nat))], [(4, [.rows 3 [[.int .i64 0, .str [], .nils]] none]), (11, [.rows 3 [[.int .i64 t0.id, .str t0.name, .osl 93 0 0 (colRows (C0)).length (colRows (C0)).length]] none]), (93, [.rows 2 (colRows (C0)) (some [])]), (16, [.rows 2 [[.str c.name, .osl 94 0 0 0 0]] none]), (94, [.rows 2 [] (some [])])], [4, 11, 93, 16, 94]⟩)
        (LeG.mk' rfl rfl rfl ⟨⟨_, .refl _, rfl⟩, ⟨_, .refl _, rfl⟩, ⟨_, .refl _, rfl⟩, ⟨_, .refl _, rfl⟩, ⟨_, .refl _, rfl⟩, ⟨_, .refl _, rfl⟩, ⟨_, .refl _, rfl⟩, ⟨_, .bp 13 0 2 r.row none rfl rfl (by simp [Rf.row]) (.inr rfl), rfl⟩, ⟨_, .bp 14 0 2 c.row none rfl rfl (by simp [Column.row]) (.inr rfl), rfl⟩, ⟨_, .refl _, rfl⟩, ⟨_, .refl _, rfl⟩, ⟨_, .refl _, rfl⟩, ⟨_, .refl _, rfl⟩, ⟨_, .refl _, rfl⟩, trivial⟩ (.ci 4 (.ci 11 (.ci 93 (.ci 16 (.ci 94 .nil))))) rfl rfl (by rw [hK]; rfl)) ?_
      refine W.loopG (fun m st => ∃ j : Nat, j ≤ K.length ∧ m = K.length - j ∧ st = ⟨[(0, .sl (tblRows l) false), (4, .bp 4 0), (6, .sl (rowRows K) false), (7, .dmap (mkD (plcG 0 (tabsI v.path)))), (11, .bp 11 0), (44, .sl (rfRows v.cs) false), (45, .int .i64 (rfRows v.cs).length), (13, .ro r.row 0), (14, .ro c.row 0), (16, .bp 16 0), (46, .int .i64 q), (59, .sl (rowRows K) false), (60, .int .i64 (rowRows K).length), (61, .int .i64 j)], [(4, [.rows 3 [[.int .i64 0, .str [], .nils]] none]), (11, [.rows 3 [[.int .i64 t0.id, .str t0.name, .osl 93 0 0 (colRows (C0)).length (colRows (C0)).length]] none]), (93, [.rows 2 (colRows (C0)) (some [])]), (16, [.rows 2 [[.str c.name, .osl 94 0 0 (cellRows ((K.take j).map fun row => c.cells.getD (row.getD i 0) cell0)).length (cellRows ((K.take j).map fun row => c.cells.getD (row.getD i 0) cell0)).length]] none]), (94, [.rows 2 (cellRows ((K.take j).map fun row => c.cells.getD (row.getD i 0) cell0)) (some [])])], [4, 11, 93, 16, 94]⟩)
        K.length _ ⟨0, by omega, by omega, rfl⟩ ⟨[(4, 4), (11, 11), (93, 93), (16, 16), (94, 94)], [], [], .mq (.ci 4 (.ci 11 (.ci 93 (.ci 16 (.ci 94 .nil)))))⟩ ?_
      rintro m st ⟨j, hj, rfl, rfl⟩
      have hjn := cellRows_len ((K.take j).map fun row => c.cells.getD (row.getD i 0) cell0)
      rw [List.length_map, List.length_take] at hjn
      (refine gGo ?_; intros)
      refine boolRes_split (fun hb => ?_) (fun hb => ?_) <;> conv => whnf
      · have hjl : j < K.length := by omega
        have hgj := rowRows_get hjl
        have hmj := hlt2 _ (List.getElem_mem hjl)
        have hsj : cellRows ((K.take (j + 1)).map fun row => c.cells.getD (row.getD i 0) cell0) = (cellRows ((K.take j).map fun row => c.cells.getD (row.getD i 0) cell0)) ++ [(c.cells.getD (K[j].getD i 0) cell0).row] := by
          rw [List.take_succ_eq_append_getElem hjl, List.map_append]
          unfold cellRows
          rw [List.map_append]; rfl
        generalize K[j] = x at *
        have hxg : (natRows x)[i]? = some [.int .i64 ((x.getD i 0 : Nat) : Int)] := by
          have hk1 : i < x.length := hmj.1
          have e : x.getD i 0 = x[i] := by rw [List.getD_eq_getElem?_getD, List.getElem?_eq_getElem hk1]; rfl
          rw [natRows_get hk1, e]
        have hcx : (cellRows c.cells)[x.getD i 0]? = some (c.cells.getD (x.getD i 0) cell0).row := by
          rw [cellRows_get hmj.2, List.getD_eq_getElem?_getD (l := c.cells), List.getElem?_eq_getElem hmj.2]; rfl
        have hxn := natRows_len x
        have hm1 := hmj.1
        have hm2 := hmj.2
        clear hmj
        generalize c.cells.getD (x.getD i 0) cell0 = ce at *
        generalize x.getD i 0 = xk at *
        generalize (cellRows ((K.take j).map fun row => c.cells.getD (row.getD i 0) cell0)) = W0 at *
        (refine gGo ?_; intros)
        refine rowAt_of (by simpa using hgj) ?_
        conv => whnf
        (refine gGo ?_; intros)
        refine zok_intro (by kernel_rfl) ?_
        conv => whnf
        refine ⟨_, rfl, _, hE, ?_⟩
        conv => whnf
        (refine gGo ?_; intros)
        refine rowAt_of (by simpa using hxg) ?_
        conv => whnf
        (refine gGo ?_; intros)
        refine rowAt_of (by simpa using hcx) ?_
        conv => whnf
        (refine gGo ?_; intros)
        refine ⟨⟨rowsSz_cons rfl rowsSz_nil, rfl⟩, fitsN (n := W0.length + 1) (b := 24) (by omega) (by omega), .inl ⟨rfl, rfl, ?_⟩⟩
        conv => whnf
        (refine gGo ?_; intros)
        refine ⟨_, _, ?_, ⟨j + 1, by omega, rfl, rfl⟩, [(4, 4), (11, 11), (93, 93), (16, 16), (94, 94)], [], [], .mq (.ci 4 (.ci 11 (.ci 93 (.cons 16 rfl rfl (.refl _) (by rw [hsj, List.length_append]; rfl) (.cons 94 rfl rfl (.refl _) (by rw [hsj]; rfl) .nil)))))⟩
        omega
      · have hje : j = K.length := by omega
        rw [hje, List.take_length]
        refine gA ?_
        refine gD rfl ?_
        refine gG ?_
        conv => whnf
        generalize (K.map fun row => c.cells.getD (row.getD i 0) cell0) = CE at *
        have hCE := cellRows_len CE
        refine W.leG (mp := [(4, 4), (11, 11), (93, 93), (16, 16)]) (bo := [94]) (st' := ⟨[(0, .sl (tblRows l) false), (4, .bp 4 0), (6, .sl (rowRows K) false), (7, .dmap (mkD (plcG 0 (tabsI v.path)))), (11, .bp 11 0), (44, .sl (rfRows v.cs) false), (45, .int .i64 (rfRows v.cs).length), (16, .bp 16 0), (46, .int .i64 q)], [(4, [.rows 3 [[.int .i64 0, .str [], .nils]] none]), (11, [.rows 3 [[.int .i64 t0.id, .str t0.name, .osl 93 0 0 (colRows (C0)).length (colRows (C0)).length]] none]), (93, [.rows 2 (colRows (C0)) (some [])]), (16, [.rows 2 [[.str c.name, .sl (cellRows CE) false]] none])], [4, 11, 93, 16]⟩)
          (LeG.mq (.ci 4 (.ci 11 (.ci 93 (.cons 16 (b1 := .rows 2 [[.str c.name, .sl (cellRows CE) false]] none) rfl rfl (.rows _ _ _ (by repeat' (first | exact trivial | exact ⟨Lent.refl _, rfl⟩ | exact ⟨Lent.norm _, rfl⟩ | exact ⟨Lent.whole rfl rfl (by first | rfl | exact List.length_append.symm | exact hlenR | simp) rfl (by first | exact .inl rfl | exact .inr rfl), rfl⟩ | apply And.intro))) rfl .nil))))) ?_
        (refine gGo ?_; intros)
        refine ⟨⟨rowsSz_cons rfl rowsSz_nil, rfl⟩, fitsN (n := (colRows C0).length + 1) (b := 40) (by omega) (by omega), .inl ⟨rfl, rfl, ?_⟩⟩
        conv => whnf
        (refine gGo ?_; intros)
        refine ⟨_, _, ?_, ⟨q + 1, by omega, rfl, rfl⟩, [(4, 4), (11, 11), (93, 93)], [], [], .mq (.ci 4 (.cons 11 rfl rfl (.refl _) (by rw [hsn, colRows_snoc, List.length_append]; rfl) (.cons 93 rfl rfl (.refl _) (by rw [hsn, colRows_snoc]; rfl) .nil)))⟩
        omega
    · have hqe : q = v.cs.length := by omega
      rw [hqe, List.take_length]
      refine gA ?_
      refine gD rfl ?_
      refine gG ?_
      conv => whnf
      generalize v.cs.map SC = CS at *
      refine W.leG (mp := [(4, 4), (11, 11)]) (bo := [93]) (st' := ⟨[(4, .bp 4 0), (11, .bp 11 0)], [(4, [.rows 3 [[.int .i64 0, .str [], .nils]] none]), (11, [.rows 3 [[.int .i64 t0.id, .str t0.name, .sl (colRows CS) false]] none])], [4, 11]⟩)
        (LeG.mq (.ci 4 (.cons 11 (b1 := .rows 3 [[.int .i64 t0.id, .str t0.name, .sl (colRows CS) false]] none) rfl rfl (.rows _ _ _ (by repeat' (first | exact trivial | exact ⟨Lent.refl _, rfl⟩ | exact ⟨Lent.norm _, rfl⟩ | exact ⟨Lent.whole rfl rfl (by first | rfl | exact List.length_append.symm | exact hlenR | simp) rfl (by first | exact .inl rfl | exact .inr rfl), rfl⟩ | apply And.intro))) rfl .nil))) ?_
      (refine gGo ?_; intros)
      (refine gM ?_; conv => whnf)
      exact ret0 rfl rfl rfl
  · rw [if_neg h]
    have sp := kept_err h
    generalize keptE l v = e at *
    refine gEn env Tryd.func11 fun Γ hN hK hML => ?_
    (refine gGo ?_; intros)
    (refine gPC (sp) ?_; conv => whnf)
    (refine gGr ?_; intros)
    exact retH rfl (.norm _) rfl rfl rfl trivial
end Go.Sx.Sp
