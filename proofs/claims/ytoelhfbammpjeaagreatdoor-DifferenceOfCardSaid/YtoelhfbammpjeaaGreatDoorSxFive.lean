/- Families of blocks, and code whose end is told in the words of the model. -/
import Derived.Test.YtoelhfbammpjeaaGreatDoorSxFour
import Derived.RangeFuncLeaves
set_option linter.unusedVariables false
set_option linter.unusedSimpArgs false
namespace Go.Sx
open Go
section
variable {P : Program} {T : List (Nat × TI)} {Γ : Ctx} {Q : Exit → St → Prop} {st : St}
end
mutual
def V.gat (d F n : Nat) : V → V
  | .bp s o => if s = d ∨ s = F then .dead else .bp s o
  | .pel s i r o k => if s = d then (if i = 0 then .pel F n r o k else .dead) else if s = F then (if i < n then .pel F i r o k else .dead) else .pel s i r o k
  | .osl s i o l k => if s = d then (if i = 0 then .osl F n o l k else .dead) else if s = F then (if i < n then .osl F i o l k else .dead) else .osl s i o l k
  | .oslc s i o l k c => if s = d then (if i = 0 then .oslc F n o l k c else .dead) else if s = F then (if i < n then .oslc F i o l k c else .dead) else .oslc s i o l k c
  | .omap s i => if s = d then (if i = 0 then .omap F n else .dead) else if s = F then (if i < n then .omap F i else .dead) else .omap s i
  | .agg cs => .agg (gatL d F n cs)
  | .tup vs => .tup (gatL d F n vs)
  | .fn f caps => .fn f (gatL d F n caps)
  | .iface t v => .iface t (v.gat d F n)
  | .nils => .nils
  | .dead => .dead
  | .bool b => .bool b
  | .int k n => .int k n
  | .str s => .str s
  | .nilp => .nilp
  | .ro row o => .ro row o
  | .sl rows full => .sl rows full
  | .nilf => .nilf
  | .nili => .nili
  | .nilm => .nilm
  | .sle => .sle
  | .dmap rows => .dmap rows
def gatL (d F n : Nat) : List V → List V
  | [] => []
  | v :: vs => v.gat d F n :: gatL d F n vs
end
theorem gatL_eq (d F n : Nat) (l : List V) : gatL d F n l = l.map (V.gat d F n) := by
  induction l with
  | nil => simp [gatL]
  | cons v l ih => simp [gatL, ih]
theorem V.one_gat {d F n : Nat} {v : V} (h : v.one = true) : (v.gat d F n).one = true := by
  cases v <;> simp only [V.gat] <;> (try (repeat' split)) <;> first | rfl | (simp [V.one] at h)
mutual
theorem V.gat_pure {d F n : Nat} : (v : V) → v.sites = [] → v.gat d F n = v
  | .bp s o, h => by simp [V.sites] at h
  | .pel s i r o k, h => by simp [V.sites] at h
  | .osl s i o l k, h => by simp [V.sites] at h
  | .oslc s i o l k c, h => by simp [V.sites] at h
  | .omap s i, h => by simp [V.sites] at h
  | .agg cs, h => by simp only [V.gat, gatL_pure cs (by simpa [V.sites] using h)]
  | .tup cs, h => by simp only [V.gat, gatL_pure cs (by simpa [V.sites] using h)]
  | .fn f cs, h => by simp only [V.gat, gatL_pure cs (by simpa [V.sites] using h)]
  | .iface t v, h => by simp only [V.gat, V.gat_pure v (by simpa [V.sites] using h)]
  | .nils, _ => by simp [V.gat]
  | .dead, _ => by simp [V.gat]
  | .bool _, _ => by simp [V.gat]
  | .int _ _, _ => by simp [V.gat]
  | .str _, _ => by simp [V.gat]
  | .nilp, _ => by simp [V.gat]
  | .ro _ _, _ => by simp [V.gat]
  | .sl _ _, _ => by simp [V.gat]
  | .nilf, _ => by simp [V.gat]
  | .nili, _ => by simp [V.gat]
  | .nilm, _ => by simp [V.gat]
  | .sle, _ => by simp [V.gat]
  | .dmap _, _ => by simp [V.gat]
theorem gatL_pure {d F n : Nat} : (l : List V) → sitesL l = [] → gatL d F n l = l
  | [], _ => by simp [gatL]
  | v :: vs, h => by
    simp only [sitesL, List.append_eq_nil_iff] at h
    simp only [gatL]
    rw [V.gat_pure v h.1, gatL_pure vs h.2]
end
def MM.gat (m : MM) (d F n : Nat) : MM := fun k i => if k = d then none else if k = F then (if i = n then m d 0 else if i < n then m F i else none) else m k i
theorem VRel.gat {w : World} {G : Nat → Prop} {m : MM} {d F n : Nat} (hdF : d ≠ F) {v : V} {c : Value} (h : VRel w G m v c) : VRel w G (m.gat d F n) (v.gat d F n) c := by
  have e1 : ∀ k i, k ≠ d → k ≠ F → m.gat d F n k i = m k i := fun k i h1 h2 => by simp [MM.gat, h1, h2]
  have e2 : m.gat d F n F n = m d 0 := by simp [MM.gat, Ne.symm hdF]
  have e3 : ∀ i, i < n → m.gat d F n F i = m F i := fun i hi => by simp [MM.gat, Ne.symm hdF, hi, Nat.ne_of_lt hi]
  have key : ∀ {s i s' i' : Nat}, ((s = d ∧ i = 0 ∧ s' = F ∧ i' = n) ∨ (s ≠ d ∧ s = F ∧ i < n ∧ s' = s ∧ i' = i) ∨ (s ≠ d ∧ s ≠ F ∧ s' = s ∧ i' = i)) → m.gat d F n s' i' = m s i := fun {s i s' i'} hc => by
    rcases hc with ⟨rfl, rfl, rfl, rfl⟩ | ⟨h1, rfl, h2, rfl, rfl⟩ | ⟨h1, h2, rfl, rfl⟩
    · exact e2
    · exact e3 _ h2
    · exact e1 _ _ h1 h2
  induction h with
  | dead c => simp only [V.gat]; exact .dead c
  | bool b => simp only [V.gat]; exact .bool b
  | int k n => simp only [V.gat]; exact .int k n
  | str s h => simp only [V.gat]; exact .str s h
  | nilp => simp only [V.gat]; exact .nilp
  | bp s o c hc h =>
    simp only [V.gat]
    split
    · exact .dead c
    · rename_i hs
      have hs1 : s ≠ d := fun e => hs (.inl e)
      have hs2 : s ≠ F := fun e => hs (.inr e)
      exact .bp s o c hc fun x hx => h x (by rw [e1 s 0 hs1 hs2] at hx; exact hx)
  | pel s i r o k c hc h =>
    simp only [V.gat]
    repeat' split
    all_goals (first | exact .dead c | (refine .pel _ _ _ _ _ c hc fun x hx => h x ?_; rw [← hx]; exact (key (by simp_all)).symm))
  | osl s i o l k c hc h =>
    simp only [V.gat]
    repeat' split
    all_goals (first | exact .dead c | (refine .osl _ _ _ _ _ c hc fun x hx => h x ?_; rw [← hx]; exact (key (by simp_all)).symm))
  | oslc s i o l k cap c hc h =>
    simp only [V.gat]
    repeat' split
    all_goals (first | exact .dead c | (refine .oslc _ _ _ _ _ _ c hc fun x hx => h x ?_; rw [← hx]; exact (key (by simp_all)).symm))
  | omap s i c hc h =>
    simp only [V.gat]
    repeat' split
    all_goals (first | exact .dead c | (refine .omap _ _ c hc fun x hx => h x ?_; rw [← hx]; exact (key (by simp_all)).symm))
  | ro row o b base c hF hb ho hdd h1 ho1 hc hv ih =>
    simp only [V.gat]
    refine .ro row o b base c hF hb ho hdd h1 ho1 hc fun j v hj => ?_
    have := ih j v hj
    rwa [V.gat_pure v (hdd j v hj)] at this
  | nilsl full a => simp only [V.gat]; exact .nilsl full a
  | sl rows full sz b base cap c hF hl hmx hf hz' hdd h1 ho1 hc hv ih =>
    simp only [V.gat]
    refine .sl rows full sz b base cap c hF hl hmx hf hz' hdd h1 ho1 hc fun i r j v hi hj => ?_
    have := ih i r j v hi hj
    rwa [V.gat_pure v (hdd i r j v hi hj)] at this
  | nils => simp only [V.gat]; exact .nils
  | agg cs c hl ho h1 hv ih =>
    simp only [V.gat, gatL_eq]
    refine .agg _ c (by simpa using hl) ho (fun j v hj => ?_) (fun j v x hj hx => ?_)
    · simp only [List.getElem?_map, Option.map_eq_some_iff] at hj
      obtain ⟨u, hu, rfl⟩ := hj
      exact V.one_gat (h1 j u hu)
    · simp only [List.getElem?_map, Option.map_eq_some_iff] at hj
      obtain ⟨u, hu, rfl⟩ := hj
      exact ih j u x hu hx
  | tup cs c hl hv ih =>
    simp only [V.gat, gatL_eq]
    refine .tup _ c (by simpa using hl) (fun j v x hj hx => ?_)
    simp only [List.getElem?_map, Option.map_eq_some_iff] at hj
    obtain ⟨u, hu, rfl⟩ := hj
    exact ih j u x hu hx
  | fn f cs c hl hv ih =>
    simp only [V.gat, gatL_eq]
    refine .fn f _ c (by simpa using hl) (fun j v x hj hx => ?_)
    simp only [List.getElem?_map, Option.map_eq_some_iff] at hj
    obtain ⟨u, hu, rfl⟩ := hj
    exact ih j u x hu hx
  | nilf => simp only [V.gat]; exact .nilf
  | iface t v c h ih => simp only [V.gat]; exact .iface t _ c ih
  | nili => simp only [V.gat]; exact .nili
  | nilm => simp only [V.gat]; exact .nilm
  | sle a cap h => simp only [V.gat]; exact .sle a cap h
  | dmap rows b clock ents c hF hh hs' hdd hc hv ih =>
    simp only [V.gat]
    refine .dmap rows b clock ents c hF hh hs' hdd hc fun i r j v hi hj => ?_
    have := ih i r j v hi hj
    rwa [V.gat_pure v (hdd i r j v hi hj)] at this
end Go.Sx
namespace Go.Sx
open Go
structure Wr [Glob] (P : Program) (T : List (Nat × TI)) (Γ : Ctx) (c : Code) (R : Exit → Act → World → Prop) (st : St) : Prop where
  out : ∀ m a w, Rel Γ m st.den a w → c.wp P R a w
def noQ : Exit → St → Prop := fun _ _ => False
section
variable {P : Program} {T : List (Nat × TI)} {Γ : Ctx} {R : Exit → Act → World → Prop} {st : St}
theorem Wr.seq [Glob] {x y : Code} (h : W P T Γ x (thenQ (fun s => Wr P T Γ y R s) noQ) st) : Wr P T Γ (.seq x y) R st :=
  ⟨fun m a w hr => wp_seq (wp_mono (h.out m a w hr) fun e a' w' ⟨s', m', h1, h2⟩ => by
    cases e <;> first
      | exact h1.out m' a' w' h2
      | exact h1.elim)⟩
theorem Wr.leG [Glob] {c : Code} {st' : St} {mp : List (Nat × Nat)} {bo gs : List Nat} (hl : LeG Γ.K0 mp bo gs st st') (h : Wr P T Γ c R st') : Wr P T Γ c R st :=
  ⟨fun m a w hr => let ⟨m', hr'⟩ := hr.leG hl; h.out m' a w hr'⟩
end
end Go.Sx
namespace Go.Sx
open Go
inductive BGat (d F n : Nat) : Blk → Blk → Prop
  | fam (b : Blk) : b.famB = true → BGat d F n b b
  | gone (b : Blk) : BGat d F n b .gone
  | rows (sz : Nat) (rs rs1 : List (List V)) (ks ks1 : Option (List Nat)) : rs.length = rs1.length → (∀ (i : Nat) r1, rs1[i]? = some r1 → ∃ r, rs[i]? = some r ∧ r1 = gatL d F n r ∧ ∀ l, ks1 = some l → ∀ v ∈ r1, ∀ s ∈ v.sites, s ∈ l) → BGat d F n (.rows sz rs ks) (.rows sz rs1 ks1)
  | map (es es1 : List (Nat × V × V)) (clock : Nat) (ks ks1 : Option (List Nat)) : es.length = es1.length → (∀ (i : Nat) b k v1, es1[i]? = some (b, k, v1) → ∃ v, es[i]? = some (b, k, v) ∧ v1 = v.gat d F n ∧ ∀ l, ks1 = some l → ∀ s ∈ v1.sites, s ∈ l) → BGat d F n (.map es clock ks) (.map es1 clock ks1)
def envGat (s : St) (d F n : Nat) : List (Nat × V) → Prop
  | [] => True
  | (t, v) :: l => v = (lookE s.env t).gat d F n ∧ envGat s d F n l
theorem envGat.get {s : St} {d F n : Nat} : ∀ {l : List (Nat × V)}, envGat s d F n l → ∀ p ∈ l, p.2 = (lookE s.env p.1).gat d F n
  | [], _, p, hp => by cases hp
  | (t, v) :: l, h, p, hp => by
    rcases List.mem_cons.1 hp with e | e
    · subst e; exact h.1
    · exact envGat.get h.2 p e
def blkKs : Blk → List Nat
  | .rows _ _ (some l) => l
  | .map _ _ (some l) => l
  | _ => []
def heapGat (s : St) (d F n : Nat) : List (Nat × List Blk) → Prop
  | [] => True
  | (k, l) :: r => (Nat.beq k d = false ∧ Nat.beq k F = false ∧ ∃ b b1, lookH s.heap k = [b] ∧ l = [b1] ∧ BGat d F n b b1 ∧ ((blkKs b1).all fun q => memB q s.used) = true) ∧ heapGat s d F n r
theorem heapGat.get {s : St} {d F n : Nat} : ∀ {l : List (Nat × List Blk)}, heapGat s d F n l → ∀ p ∈ l, p.1 ≠ d ∧ p.1 ≠ F ∧ ∃ b b1, lookH s.heap p.1 = [b] ∧ p.2 = [b1] ∧ BGat d F n b b1 ∧ ((blkKs b1).all fun q => memB q s.used) = true
  | [], _, p, hp => by cases hp
  | (k, l) :: r, h, p, hp => by
    rcases List.mem_cons.1 hp with e | e
    · subst e
      obtain ⟨h1, h2, h3⟩ := h.1
      exact ⟨fun (e : k = d) => (by rw [e, Nat.beq_refl] at h1; cases h1), fun (e : k = F) => (by rw [e, Nat.beq_refl] at h2; cases h2), h3⟩
    · exact heapGat.get h.2 p e
end Go.Sx
namespace Go.Sx
open Go
structure Hold (p : Prop) : Prop where
  out : p
theorem gGo {G H : Prop} (k : H) (h : Hold H → G := by
  intro hh
  repeat (first | refine W.seq ?_ | refine W.block ?_ | refine W.condT rfl ?_ | refine W.condF rfl ?_ | ((first | refine W.reg env hN (by kernel_rfl) ?_ | refine W.skip ?_ | refine W.exit ?_ | refine fun (hlZ : (_ : Nat) ≤ _) => ?_ | refine okFp_intro (by kernel_rfl) ?_ | refine And.intro rfl ?_ | refine And.intro (by omega) ?_ | refine rowAt_of rfl ?_ | refine boolRes_true (by omega) ?_ | refine boolRes_false (by omega) ?_ | refine boolRes_true rfl ?_ | refine Or.inr ?_); conv => whnf))
  repeat revert hlZ
  exact hh.out) : G := h ⟨k⟩
theorem gGl {G H : Prop} (k : H) (h : Hold H → G := by
  intro hh
  repeat (first | refine W.seq ?_ | refine W.block ?_ | refine W.condT rfl ?_ | refine W.condF rfl ?_ | ((first | refine W.reg env hN (by kernel_rfl) ?_ | refine W.skip ?_ | refine W.exit ?_ | refine fun (hlZ : (_ : Nat) ≤ _) => ?_ | refine okFp_intro (by kernel_rfl) ?_ | refine And.intro rfl ?_ | refine And.intro (by omega) ?_ | refine rowAt_of rfl ?_ | refine boolRes_true (by omega) ?_ | refine boolRes_false (by omega) ?_ | refine boolRes_true rfl ?_); conv => whnf))
  repeat revert hlZ
  exact hh.out) : G := h ⟨k⟩
theorem gGr {G H : Prop} (k : H) (h : Hold H → G := by
  intro hh
  repeat (first | refine W.seq ?_ | refine W.block ?_ | refine W.condT rfl ?_ | refine W.condF rfl ?_ | ((first | refine W.reg env hN (by kernel_rfl) ?_ | refine W.skip ?_ | refine W.exit ?_ | refine fun (hlZ : (_ : Nat) ≤ _) => ?_ | refine okFp_intro (by kernel_rfl) ?_ | refine And.intro rfl ?_ | refine And.intro (by omega) ?_ | refine rowAt_of rfl ?_ | refine boolRes_true (by omega) ?_ | refine boolRes_false (by omega) ?_ | refine boolRes_true rfl ?_ | refine Or.inr ?_ | refine W.ret ?_); conv => whnf))
  repeat revert hlZ
  exact hh.out) : G := h ⟨k⟩
theorem gGs {G H : Prop} (k : H) (h : Hold H → G := by
  intro hh
  repeat ((first | refine okFp_intro (by kernel_rfl) ?_ | refine fun (hlZ : (_ : Nat) ≤ _) => ?_ | refine And.intro rfl ?_ | refine And.intro (by omega) ?_ | refine rowAt_of rfl ?_ | refine boolRes_true (by omega) ?_ | refine boolRes_false (by omega) ?_ | refine boolRes_true rfl ?_ | refine Or.inr ?_); conv => whnf)
  repeat revert hlZ
  exact hh.out) : G := h ⟨k⟩
section
variable {P : Program} {N : Nat} {o : Oper} {c : Call} {fop : Operand} {ρ : Operand → V} {f : Nat} {caps args : List V} {h : Nat → List Blk} {hin hout : List (Nat × Blk)} {v : V} {K : Kont}
theorem gPC [Glob] (sp : Spec P f args [] v []) (k : K (v.ren (look [])) (upsOf [] [] []) []) (hop : o.op = .call c := by exact rfl) (hc : c.callee = .value fop := by exact rfl) (hfn : ρ fop = .fn f caps := by exact rfl)
    (hd : dstOK N o.dst = true := by kernel_rfl) (hargs : LentL h [] (c.args.toList.map ρ ++ caps) (args.map (V.ren (look []))) := by repeat' (first | exact trivial | exact Lent.refl _ | exact Lent.norm _ | apply And.intro))
    (hs : (args.all fun u => u.sites.all fun k => memB k (keys [])) = true := by exact rfl) (ok : CallOK h [] [] [] [] v [] := by exact ⟨rfl, rfl, rfl, rfl, rfl, trivial, rfl, rfl⟩) : ∃ v us rd, GoodW P N o ρ h v us rd ∧ K v us rd :=
  ⟨_, _, _, callG [] [] [] hop hc hfn hd sp hargs hs ok, k⟩
theorem gCA [Glob] (mp fr : List (Nat × Nat)) (bo : List Nat) (sp : Spec P f args hin v hout) (k : K (v.ren (look (mp ++ fr))) (upsOf mp fr hout) (mp.map (·.2) ++ bo)) (hop : o.op = .call c := by exact rfl) (hc : c.callee = .value fop := by exact rfl) (hfn : ρ fop = .fn f caps := by exact rfl)
    (hd : dstOK N o.dst = true := by kernel_rfl) (hargs : LentL h bo (c.args.toList.map ρ ++ caps) (args.map (V.ren (look mp))) := by repeat' (first | exact trivial | exact Lent.refl _ | exact Lent.norm _ | apply And.intro))
    (hs : (args.all fun u => u.sites.all fun k => memB k (keys hin)) = true := by exact rfl) (ok : CallOK h mp fr bo hin v hout := by exact ⟨rfl, rfl, rfl, rfl, rfl, by repeat' (first | exact trivial | rfl | apply And.intro), rfl, rfl⟩) : ∃ v us rd, GoodW P N o ρ h v us rd ∧ K v us rd :=
  ⟨_, _, _, callG mp fr bo hop hc hfn hd sp hargs hs ok, k⟩
end
theorem gEn [Glob] {P : Program} {T : List (Nat × TI)} (hE : Env P T) {f : Nat} {fn : Func} {c : Code} {args : List V} {hin : List (Nat × Blk)} {v : V} {hout : List (Nat × Blk)} (hf : P.funcs[f]? = some fn)
    (hw : ∀ Γ : Ctx, Γ.N = fn.ntmps → Γ.K0 = keys hin → maxLen = 9223372036854775807 → W P T Γ c (RetQ T fn v hout) ⟨envFrom 0 args, heapL hin, keys hin⟩)
    (hb : fn.body = some c := by exact rfl) (hname : (fn.name == "runtime.NumGoroutine") = false := by kernel_rfl) (hN : Nat.ble args.length fn.ntmps = true := by kernel_rfl) (hK0 : ((keys hin).all fun k => memB k (keys hout)) = true := by exact rfl) : Spec P f args hin v hout :=
  Spec.body hE hf hb hname (Nat.le_of_ble_eq_true hN) (keysSub hK0) fun Γ hN hK => hw Γ hN hK (by unfold maxLen; rfl)
theorem HeapG.ci {s : St} {bo gs : List Nat} {mp : List (Nat × Nat)} (k : Nat) {k' : Nat} {b : Blk} {l : List Blk} {r : List (Nat × List Blk)} (hr : HeapG s bo gs mp r) (h1 : look mp k = some k' := by exact rfl) (h2 : lookH s.heap k = [b] := by exact rfl) (h3 : l = [b.ren (look mp)] := by exact rfl) : HeapG s bo gs mp ((k', l) :: r) := .cons k h1 h2 (.refl _) h3 hr
theorem LeG.mq {K0 : List Nat} {mp : List (Nat × Nat)} {bo : List Nat} {s s' : St} (hheap : HeapG s bo [] mp s'.heap) (nd1 : nodupB (mp.map (·.1)) = true := by exact rfl) (nd2 : nodupB (mp.map (·.2)) = true := by exact rfl) (ndb : (bo.all fun k => match look mp k with | none => true | some k' => match lookH s'.heap k' with | [] => true | l => goneB l) = true := by exact rfl) (henv : envG s bo mp s'.env := by repeat' (first | exact trivial | exact ⟨_, .refl _, rfl⟩ | apply And.intro)) (hused : (mp.all fun p => memB p.2 s'.used) = true := by exact rfl) (hsub : (s'.used.all fun k => memB k (mp.map (·.2))) = true := by exact rfl) (hkeep : keepB mp [] K0 = true := by rw [hK]; rfl) : LeG K0 mp bo [] s s' := LeG.mk' nd1 nd2 ndb henv hheap hused hsub hkeep
end Go.Sx
namespace Go.Sx
open Go
def keysF (h : List (Nat × List Blk)) : List Nat := h.map (·.1)
structure FRel [Glob] (Fr : Nat → Prop) (m : MM) (h : List (Nat × List Blk)) (w : World) : Prop where
  dom : ∀ k i, (m k i).isSome = true ↔ i < (lookH h k).length
  blk : ∀ k (i : Nat) blk, (lookH h k)[i]? = some blk → ∃ x, m k i = some x ∧ BRel w (FrO Fr m) m x blk
  inj : ∀ k i x k' i' x', m k i = some x → m k' i' = some x' → x.nil = false → x'.nil = false → x.b = x'.b → k = k' ∧ i = i'
  fr : ∀ k i x, m k i = some x → x.nil = false → ¬ Fr x.b ∧ x.b < w.heap.size
  within : ∀ k, ∀ b ∈ lookH h k, b.within (fun k => memB k (keysF h))
  glob : GRel w (FrO Fr m)
structure SpecF [Glob] (P : Program) (f : Nat) (args : List V) (hin : List (Nat × List Blk)) (v : V) (hout : List (Nat × List Blk)) : Prop where
  enter : ∀ (cargs : Array Value) (w : World), (callFunc f cargs).run P w = .ok (.enter f cargs) w
  calls : ∀ (Fr : Nat → Prop) (m : MM) (w : World) (cargs : List Value), cargs.length = args.length → (∀ b, Fr b → b < w.heap.size) → FRel Fr m hin w →
    (∀ (j : Nat) u c, args[j]? = some u → cargs[j]? = some c → VRel w (FrO Fr m) m u c) → (∀ u ∈ args, ∀ k ∈ u.sites, memB k (keysF hin) = true) →
    Calls P f cargs.toArray w fun e w' => ∃ cv m', e = .returned cv ∧ VRel w' (FrO Fr m') m' v cv ∧ FRel Fr m' hout w' ∧ (∀ k i x, m' k i = some x → x.nil = false → Own m x.b ∨ w.heap.size ≤ x.b) ∧
      (∀ k, memB k (keysF hin) = true → ∀ i x, m' k i = some x → ∃ x0, m k i = some x0 ∧ Adv x0 x) ∧ Ext (Own m) w w'
def RetF (T : List (Nat × TI)) (fn : Func) (v : V) (hout : List (Nat × List Blk)) : Exit → St → Prop := fun e st =>
  (match e with | .normal => True | .ret => True | _ => False) ∧ ∃ rs st1 gs, resL T st fn.results.toList = some rs ∧ st1 = (⟨[(0, one? rs)], st.heap, st.used⟩ : St) ∧ LeG (keysF hout) ((keysF hout).map fun k => (k, k)) [] gs st1 ⟨[(0, v)], hout, keysF hout⟩
theorem look_mem_iff {h : List (Nat × List Blk)} {k : Nat} : memB k (keysF h) = true ↔ (look h k).isSome = true :=
  ⟨fun hm => look_isSome.2 (memB_true hm), fun hs => memB_of (look_isSome.1 hs)⟩
theorem SpecF.body [Glob] {P : Program} {T : List (Nat × TI)} (hE : Env P T) {f : Nat} {fn : Func} {c : Code} (hf : P.funcs[f]? = some fn) (hb : fn.body = some c) (hname : (fn.name == "runtime.NumGoroutine") = false)
    {args : List V} {hin : List (Nat × List Blk)} {v : V} {hout : List (Nat × List Blk)} (hN : args.length ≤ fn.ntmps) (hK0 : keysF hin = keysF hout) (hsin : ∀ p ∈ hin, ∀ b ∈ p.2, b.within (fun k => memB k (keysF hin)))
    (hw : ∀ Γ : Ctx, Γ.N = fn.ntmps → Γ.K0 = keysF hin → W P T Γ c (RetF T fn v hout) ⟨envFrom 0 args, hin, keysF hin⟩) : SpecF P f args hin v hout := by
  have hname' : ¬ fn.name = "runtime.NumGoroutine" := by simpa using hname
  refine ⟨fun cargs w => by simp [callFunc, hf, hname', hb], fun Fr m w cargs hl hFr hH hv hs => ?_⟩
  refine calls_of_wp hf hb ?_
  let Γ : Ctx := ⟨w, Own m, Fr, m, keysF hin, fn.ntmps⟩
  have hFF : Forb Γ m = FrO Fr m := rfl
  have hr : Rel Γ m (St.den ⟨envFrom 0 args, hin, keysF hin⟩) { tmps := cargs.toArray ++ Array.replicate (fn.ntmps - cargs.toArray.size) undef, defers := [] } w := by
    refine ⟨by simp [Γ]; omega, rfl, fun t => ?_, hH.dom, hH.blk, hH.inj, fun k i x hx hn => ⟨(hH.fr k i x hx hn).1, (hH.fr k i x hx hn).2, .inl ⟨k, i, x, hx, hn, rfl⟩⟩, fun b hb => ⟨hFr b hb, fun ⟨k, i, x, hx, hn, e⟩ => (hH.fr k i x hx hn).1 (e ▸ hb)⟩,
      fun k _ i x hx => ⟨x, hx, .inl rfl⟩, Ext.refl _ _, fun t k hk => ?_, fun k hk => ?_, fun k i blk hb => ?_, fun k hk => memB_of hk, hH.glob⟩
    · simp only [St.den, lookE, look_envFrom, Nat.zero_le, if_true, Nat.sub_zero]
      cases ha : args[t]? with
      | none => exact .dead _
      | some u =>
        have hlt : t < args.length := (List.getElem?_eq_some_iff.1 ha).1
        have hc : cargs[t]? = some cargs[t] := List.getElem?_eq_getElem (by omega)
        have := hv t u _ ha hc
        rw [hFF]
        have hg : (cargs.toArray ++ Array.replicate (fn.ntmps - cargs.toArray.size) undef).getD t undef = cargs[t] := by
          rw [Array.getD_eq_getD_getElem?, Array.getElem?_append_left (by simp; omega)]
          simp [hl, hlt]
        simp only
        rw [hg]
        exact this
    · simp only [St.den, lookE, look_envFrom, Nat.zero_le, if_true, Nat.sub_zero] at hk
      cases ha : args[t]? with
      | none => rw [ha] at hk; simp [V.sites] at hk
      | some u => rw [ha] at hk; exact hs u (List.mem_of_getElem? ha) k hk
    · simp only [St.den] at hk ⊢
      refine look_mem_iff.2 ?_
      cases hq : look hin k with
      | none => rw [lookH, hq] at hk; simp at hk
      | some b => rfl
    · exact hH.within k blk (List.mem_of_getElem? hb)
  have hfin : ∀ (a' : Act) (w' : World) (st' : St) (m' : MM) (rs : List V) (gs : List Nat), resL T st' fn.results.toList = some rs → LeG (keysF hout) ((keysF hout).map fun k => (k, k)) [] gs ⟨[(0, one? rs)], st'.heap, st'.used⟩ ⟨[(0, v)], hout, keysF hout⟩ → Rel Γ m' st'.den a' w' →
      a'.defers = [] ∧ ∃ cv, (results fn a'.tmps).run P w' = .ok cv w' ∧ ∃ cv' m', Ending.returned cv = .returned cv' ∧ VRel w' (FrO Fr m') m' v cv' ∧ FRel Fr m' hout w' ∧ (∀ k i x, m' k i = some x → x.nil = false → Own m x.b ∨ w.heap.size ≤ x.b) ∧
      (∀ k, memB k (keysF hin) = true → ∀ i x, m' k i = some x → ∃ x0, m k i = some x0 ∧ Adv x0 x) ∧ Ext (Own m) w w' := by
    intro a' w' st' m' rs gs hrs hle hr'
    obtain ⟨cs, h1, h2, h3, h4⟩ := run_resL hE.table hr' _ _ hrs
    have hrun : (results fn a'.tmps).run P w' = .ok (if h : cs.toArray.size = 1 then cs.toArray[0] else .tuple cs.toArray) w' := by
      have hma : (fn.results.mapM (resSem a')).run P w' = .ok cs.toArray w' := by
        rw [Array.mapM_eq_mapM_toList, Sem.run_map, h1]
        rfl
      have hres : results fn a'.tmps = (do let vs ← fn.results.mapM (resSem a'); pure (if h : vs.size = 1 then vs[0] else .tuple vs)) := by
        unfold results
        congr 1
      rw [hres]
      simp only [Sem.run_bind]
      rw [hma]
      rfl
    refine ⟨hr'.defers, _, hrun, ?_⟩
    have hone : VRel w' (Forb Γ m') m' (one? rs) (if h : cs.toArray.size = 1 then cs.toArray[0] else .tuple cs.toArray) := by
      match rs, cs, h2, h3 with
      | [], [], _, _ => exact .tup [] [] rfl (by simp)
      | [v], [c], _, h3 => exact h3 0 v c rfl rfl
      | v :: v2 :: vs, c :: c2 :: cs, h2, h3 => exact .tup _ _ h2.symm h3
    have hsites : ∀ k ∈ (one? rs).sites, memB k st'.used = true := by
      intro k hk
      match rs, h4, hk with
      | [], _, hk => simp [one?, V.sites, sitesL] at hk
      | [v], h4, hk => exact h4 v (by simp) k hk
      | v :: v2 :: vs, h4, hk =>
        simp only [one?, V.sites, sitesL_eq, List.mem_flatMap] at hk
        obtain ⟨u, hu, hk⟩ := hk
        exact h4 u hu k hk
    let Γ' : Ctx := ⟨w, Own m, Fr, m, keysF hout, 1⟩
    generalize hcv : (if h : cs.toArray.size = 1 then cs.toArray[0] else Value.tuple cs.toArray) = cv at hone
    have hr2 : Rel Γ' m' (St.den ⟨[(0, one? rs)], st'.heap, st'.used⟩) { tmps := #[cv], defers := [] } w' := by
      refine ⟨rfl, rfl, fun t => ?_, hr'.dom, hr'.heap, hr'.inj, hr'.fr, hr'.frw, fun k hk => hr'.keep k (by rw [show Γ.K0 = keysF hout from hK0]; exact hk), hr'.ext, fun t k hk => ?_, hr'.useH, hr'.useB, fun k hk => hr'.useK k (by rw [show Γ.K0 = keysF hout from hK0]; exact hk), hr'.glob⟩
      · simp only [St.den, lookE, look_cons]
        by_cases ht : t = 0
        · subst ht; exact hone
        · simp only [ht, if_false, look]; exact .dead _
      · simp only [St.den, lookE, look_cons] at hk
        by_cases ht : t = 0
        · subst ht; exact hsites k hk
        · simp only [ht, if_false, look] at hk; simp [V.sites] at hk
    obtain ⟨m2, hr3⟩ := hr2.leG hle
    have hFF2 : Forb Γ' m2 = FrO Fr m2 := rfl
    refine ⟨cv, m2, rfl, ?_, ⟨hr3.dom, hr3.heap, hr3.inj, fun k i x hx hn => ⟨(hr3.fr k i x hx hn).1, (hr3.fr k i x hx hn).2.1⟩, fun k b hb => ?_, hr3.glob⟩, fun k i x hx hn => (hr3.fr k i x hx hn).2.2, fun k hk i x hx => hr3.keep k (memB_true (show memB k (keysF hout) = true by rw [← hK0]; exact hk)) i x hx, hr3.ext⟩
    · exact hr3.env 0
    · obtain ⟨i, hi⟩ := List.getElem?_of_mem hb
      exact hr3.useB k i b hi
  refine wp_mono ((hw Γ rfl rfl).out m _ w hr) fun e a' w' ⟨st', m', ⟨he, rs, st1, gs, hrs, hst, hle⟩, hr'⟩ => ?_
  subst hst
  obtain ⟨hd, cv, h1, h2⟩ := hfin a' w' st' m' rs gs hrs hle hr'
  cases e <;> first
    | exact he.elim
    | exact ⟨hd, cv, h1, h2⟩
attribute [irreducible] RetF
end Go.Sx
namespace Go.Sx
open Go
end Go.Sx
