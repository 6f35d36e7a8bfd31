/- All paths between two columns. -/
import Derived.Test.YthlokmbefpjmgaaGreatDoorRtTwo
import Derived.Test.YthlokmbefpjmgaaGreatDoorSxFive
import Derived.Test.YthlokmbefpjmgaaGreatDoorSxFour
set_option linter.unusedVariables false
set_option linter.unusedSimpArgs false
namespace Go.Sx.Sp
open Go Go.Sx Go.Proofs Go.Sort
attribute [local irreducible] GoodW famL
set_option maxHeartbeats 1000000 in
theorem cloneSteps (rows:List (List V)) (hz:rowsSz rows 4) (hin:∀ U:Nat→Bool,(rows.all fun r=>r.all fun v=>v.sites.all U)=true) (hlen:rows.length≤4294967296):Spec Tryz.prog 44 [.sl rows false] [] (.osl 5 0 0 rows.length rows.length) [(5,.rows 4 rows none)]:=by
 have hfit:fitsV rows.length 32:=fitN hlen (by omega);refine gEn env Tryz.func44 fun Γ hN hK hML=>?_;cases rows with
 | nil =>
  refine gA ?_;(refine gE env hN (by kernel_rfl) ?_;conv=>whnf);refine W.nilSplit (full:=false) 0 (by rfl) ?_ ?_
  ·refine gGo ?_;refine W.ownNil 2 5 4 rfl rfl ?_;refine W.ref (Ref.unks 5 rfl) ?_;(refine gM ?_;conv=>whnf);exact retH rfl (.refl _) rfl rfl rfl ⟨rfl,rfl,trivial⟩
  ·refine gGl ?_;refine Or.inl ?_;(conv=>whnf);refine gGo ?_;refine ⟨⟨trivial,rfl⟩,⟨by decide,by decide⟩,.inl ⟨rfl,rfl,?_⟩⟩;(conv=>whnf);refine gGo ?_;refine W.ref (Ref.unks 5 rfl) ?_;(refine gM ?_;conv=>whnf);exact retH rfl (.refl _) rfl rfl rfl ⟨rfl,rfl,trivial⟩
 | cons r rs =>
  refine gGl ?_;refine Or.inl ?_;(conv=>whnf);refine gGo ?_;refine ⟨⟨hz,rfl⟩,by simpa using hfit,.inl ⟨rfl,rfl,?_⟩⟩;simp only [Nat.zero_add,List.nil_append];(conv=>whnf);refine gGo ?_;refine W.ref (Ref.unks 5 rfl) ?_;(refine gM ?_;conv=>whnf);exact retH rfl (.refl _) rfl rfl rfl ⟨rfl,hin _,trivial⟩
theorem stpRows_sz (l:List Stp):rowsSz (stpRows l) 4:=by
 unfold rowsSz stpRows;intro r hr;obtain ⟨c,_,rfl⟩:=List.mem_map.1 hr;rfl
theorem stpRows_flat (l:List Stp):((stpRows l).all fun r=>flatL r)=true:=by
 unfold stpRows;rw [List.all_eq_true];intro r hr;obtain ⟨c,_,rfl⟩:=List.mem_map.1 hr;rfl
theorem stpRows_in (l:List Stp) (U:Nat→Bool):((stpRows l).all fun r=>r.all fun v=>v.sites.all U)=true:=by
 unfold stpRows;rw [List.all_eq_true];intro r hr;obtain ⟨c,_,rfl⟩:=List.mem_map.1 hr;rfl
theorem stpRows_pr (l:List Stp) (ks:Option (List Nat)):pureRows (stpRows l) ks:=.inr (by
 unfold stpRows
 rw [List.all_eq_true]
 intro r hr
 obtain ⟨c,_,rfl⟩:=List.mem_map.1 hr
 rfl)
theorem stpRows_ren (l:List Stp) (ρ:Nat→Option Nat):(stpRows l).map (renL ρ)=stpRows l:=by
 unfold stpRows;rw [List.map_map];rfl
theorem pthRows_len (l:List Pth):(pthRows l).length=l.length:=by simp [pthRows]
theorem pthRows_snoc (l:List Pth) (p:Pth):pthRows (l++[p])=pthRows l++[p.row]:=by simp [pthRows]
theorem pthRows_lent {H:Nat→List Blk}{bo:List Nat}{out:List Pth}{from_:Int}{way:List Stp}{q:Nat}{ks ks2:Option (List Nat)}(hb:memB q bo=true) (hq:H q=[.rows 4 (stpRows way) ks2]) (hp:pureRows (stpRows way) ks2):BLent H bo (.rows 2 (pthRows out++[[.int .i64 from_,.osl q 0 0 (stpRows way).length (stpRows way).length]]) ks) (.rows 2 (pthRows (out++[⟨from_,way⟩])) (some [])):=by
 refine .rowsF _ _ _ _ (by simp [pthRows]) fun i r1 hi=>?_;rw [pthRows_snoc] at hi;by_cases e:i<(pthRows out).length
 ·rw [List.getElem?_append_left e] at hi;refine ⟨r1,by rw [List.getElem?_append_left e];exact hi,rfl,fun j v1 hj=>⟨v1,hj,.refl _,?_⟩⟩;unfold pthRows at hi;rw [List.getElem?_map,Option.map_eq_some_iff] at hi;obtain ⟨x,_,rfl⟩:=hi;cases j with
  | zero=>cases hj;exact ⟨rfl,rfl⟩
  | succ j=>cases j with
   | zero=>cases hj;exact ⟨rfl,rfl⟩
   | succ j=>simp [Pth.row] at hj
 ·have e2:i=(pthRows out).length:=by
   have:=(List.getElem?_eq_some_iff.1 hi).1;rw [List.length_append,List.length_singleton] at this;omega
  subst e2;rw [List.getElem?_append_right (Nat.le_refl _),Nat.sub_self] at hi;cases hi;refine ⟨[.int .i64 from_,.osl q 0 0 (stpRows way).length (stpRows way).length],by rw [List.getElem?_append_right (Nat.le_refl _),Nat.sub_self];rfl,rfl,fun j v1 hj=>?_⟩;cases j with
  | zero=>cases hj;exact ⟨_,rfl,.refl _,rfl,rfl⟩
  | succ j=>cases j with
   | zero=>cases hj;exact ⟨_,rfl,Lent.whole hb hq rfl rfl hp,rfl,rfl⟩
   | succ j=>simp [Pth.row] at hj
theorem mapAt_cons {k k' v:V}{b:Nat}{es:List (Nat×V×V)}:mapAt k ((b,k',v)::es)=match eqKey k k' with
  | some true=>some (some (0,b,v))
  | some false=>(match mapAt k es with
   | some (some (i,b',v'))=>some (some (i+1,b',v'))
   | some none=>some none
   | none=>none)
  | none=>none:=rfl
theorem mapAt_app {s t:Int}{c:Nat}{v:V}:∀ {es:List (Nat×V×V)},mapAt (.int .i64 s) es=some none→mapAt (.int .i64 s) (es++[(c,.int .i64 t,v)])=if s=t then some (some (es.length,c,v)) else some none
 | [],_=>by
  by_cases e:s=t
  ·simp [mapAt,eqKey,e]
  ·simp [mapAt,eqKey,e]
 | (b0,k0,w0)::es,h=>by
  rw [mapAt_cons] at h;rw [List.cons_append,mapAt_cons];cases hk:eqKey (.int .i64 s) k0 with
  | none=>rw [hk] at h;cases h
  | some bb=>cases bb with
   | true=>rw [hk] at h;cases h
   | false =>
    rw [hk] at h;simp only at h ⊢;cases hm:mapAt (.int .i64 s) es with
    | none=>rw [hm] at h;cases h
    | some o=>cases o with
     | some x=>rw [hm] at h;cases h
     | none =>
      rw [mapAt_app hm];by_cases e:s=t<;>simp [e]
theorem mapAt_old {s t:Int}{c b:Nat}{u v:V}:∀ {es:List (Nat×V×V)}{i:Nat},mapAt (.int .i64 s) es=some (some (i,b,u))→mapAt (.int .i64 s) (es++[(c,.int .i64 t,v)])=some (some (i,b,u))
 | [],i,h=>by simp [mapAt] at h
 | (b0,k0,w0)::es,i,h=>by
  rw [mapAt_cons] at h;rw [List.cons_append,mapAt_cons];cases hk:eqKey (.int .i64 s) k0 with
  | none=>rw [hk] at h;cases h
  | some bb=>cases bb with
   | true=>rw [hk] at h;exact h
   | false =>
    rw [hk] at h;simp only at h ⊢;cases hm:mapAt (.int .i64 s) es with
    | none=>rw [hm] at h;cases h
    | some o=>cases o with
     | none=>rw [hm] at h;cases h
     | some x =>
      obtain ⟨i',b',v'⟩:=x;rw [hm] at h;rw [mapAt_old hm];exact h
structure SeenE (es:List (Nat×V×V)) (ts:List Int):Prop where
 no:∀ t,t∉ts→mapAt (.int .i64 t) es=some none
 yes:∀ t,t∈ts→∃ j b,mapAt (.int .i64 t) es=some (some (j,b,.bool true))
theorem SeenE.snoc {es:List (Nat×V×V)}{ts:List Int}(h:SeenE es ts) {t:Int}(ht:t∉ts) (c:Nat):SeenE (es++[(c,.int .i64 t,.bool true)]) (ts++[t]):=by
 refine ⟨fun u hu=>?_,fun u hu=>?_⟩
 ·simp only [List.mem_append,List.mem_singleton,not_or] at hu;rw [mapAt_app (h.no u hu.1),if_neg hu.2]
 ·by_cases hm:u∈ts
  ·obtain ⟨j,b,h1⟩:=h.yes u hm;exact ⟨j,b,mapAt_old h1⟩
  ·have he:u=t:=by
    rcases List.mem_append.1 hu with h1 | h1
    ·exact absurd h1 hm
    ·simpa using h1
   exact ⟨_,_,by rw [mapAt_app (h.no u hm),if_pos he]⟩
theorem SeenE.last {es:List (Nat×V×V)}{ts:List Int}(h:SeenE es ts) {t:Int}(ht:t∉ts) (c:Nat):mapAt (.int .i64 t) (es++[(c,.int .i64 t,.bool true)])=some (some (es.length,c,.bool true)):=by
 rw [mapAt_app (h.no t ht),if_pos rfl]
theorem visM_len {W:Int→List Stp}{F:Int→Option Nat}{dst from_:Int}{enough:Nat}:∀ (k:Nat) (way:List Stp) (at_:Int) (out:List Pth),out.length≤enough→(visM W F dst from_ enough k way at_ out).length≤enough+1∧out.length≤(visM W F dst from_ enough k way at_ out).length
 | 0,way,at_,out,h=>by unfold visM;split<;>simp<;>omega
 | k+1,way,at_,out,h=>by
  unfold visM;split
  ·simp;omega
  ·have hfold:∀ (l:List Stp) (o:List Pth),o.length≤enough+1→(l.foldl (fun o s=>if goB F from_ k enough way s o=true then visM W F dst from_ enough k (way++[s]) s.tt o else o) o).length≤enough+1∧o.length≤(l.foldl (fun o s=>if goB F from_ k enough way s o=true then visM W F dst from_ enough k (way++[s]) s.tt o else o) o).length:=by
    intro l
    induction l with
    | nil=>intro o h;exact ⟨h,Nat.le_refl _⟩
    | cons s l ih =>
     intro o h;rw [List.foldl_cons];by_cases hg:goB F from_ k enough way s o=true
     ·rw [if_pos hg];have hle:o.length≤enough:=by
       unfold goB at hg;split at hg
       ·cases hg
       ·simp only [Bool.and_eq_true,decide_eq_true_eq] at hg;exact hg.2
      have h1:=visM_len (W:=W) (F:=F) (dst:=dst) (from_:=from_) k (way++[s]) s.tt o hle;have h2:=ih _ h1.1;exact ⟨h2.1,Nat.le_trans h1.2 h2.2⟩
     ·rw [if_neg hg];exact ih o h
   have:=hfold (W at_) out (by omega);exact this
def cntV (W:Int→List Stp) (F:Int→Option Nat) (dst from_:Int) (enough:Nat):Nat→List Stp→Int→List Pth→Nat
 | 0,_,_,_=>0
 | k+1,way,at_,out=>if at_=dst then 0 else ((W at_).foldl (fun (p:List Pth×Nat) s=>if goB F from_ k enough way s p.1=true then (visM W F dst from_ enough k (way++[s]) s.tt p.1,p.2+1+cntV W F dst from_ enough k (way++[s]) s.tt p.1) else p) (out,0)).2
def vizI (M:BunS) (D:Dist) (dst from_ most:Int) (enough:Nat) (out:List Pth) (way:List Stp) (es:List (Nat×V×V)) (c:Nat):List (Nat×Blk):=
 [(90,.rows 1 [[.int .i64 dst]] none),(91,.rows 1 [[.osl 101 0 0 (pthRows out).length (pthRows out).length]] none),(92,.rows 1 [[.int .i64 from_]] none),(93,.rows 1 [[.osl 102 0 0 (stpRows way).length (stpRows way).length]] none),(94,.rows 1 [[.dmap (mkD (datES M))]] none),(95,.rows 1 [[.dmap (mkD (distE D))]] none),(96,.rows 1 [[.omap 103 0]] none),(97,.rows 1 [[.int .i64 most]] none),(98,.rows 1 [[.int .i64 (enough:Nat)]] none),(99,.rows 1 [[.fn 75 [.bp 90 0,.bp 91 0,.bp 92 0,.bp 93 0,.bp 94 0,.bp 95 0,.bp 96 0,.bp 97 0,.bp 98 0,.bp 99 0]]] none),(101,.rows 2 (pthRows out) (some [])),(102,.rows 4 (stpRows way) (some [])),(103,.map es c (some []))]
def vizO (M:BunS) (D:Dist) (dst from_ most:Int) (enough:Nat) (out:List Pth) (way:List Stp) (es:List (Nat×V×V)) (c:Nat):List (Nat×Blk):=
 [(90,.rows 1 [[.int .i64 dst]] none),(91,.rows 1 [[.osl 101 0 0 (pthRows out).length (pthRows out).length]] none),(92,.rows 1 [[.int .i64 from_]] none),(93,.rows 1 [[.osl 104 0 0 (stpRows way).length (stpRows way).length]] none),(94,.rows 1 [[.dmap (mkD (datES M))]] none),(95,.rows 1 [[.dmap (mkD (distE D))]] none),(96,.rows 1 [[.omap 103 0]] none),(97,.rows 1 [[.int .i64 most]] none),(98,.rows 1 [[.int .i64 (enough:Nat)]] none),(99,.rows 1 [[.fn 75 [.bp 90 0,.bp 91 0,.bp 92 0,.bp 93 0,.bp 94 0,.bp 95 0,.bp 96 0,.bp 97 0,.bp 98 0,.bp 99 0]]] none),(101,.rows 2 (pthRows out) (some [])),(102,.gone),(103,.map es c (some [])),(104,.rows 4 (stpRows way) (some []))]
def vzE (at_:Int):List (Nat×V):=[(0,.int .i64 at_),(1,.bp 90 0),(2,.bp 91 0),(3,.bp 92 0),(4,.bp 93 0),(5,.bp 94 0),(6,.bp 95 0),(7,.bp 96 0),(8,.bp 97 0),(9,.bp 98 0),(10,.bp 99 0)]
def vzJ (at_:Int) (ys:List Stp) (j:Nat):List (Nat×V):=[(0,.int .i64 at_),(1,.bp 90 0),(2,.bp 91 0),(3,.bp 92 0),(4,.bp 93 0),(5,.bp 94 0),(6,.bp 95 0),(7,.bp 96 0),(8,.bp 97 0),(9,.bp 98 0),(10,.bp 99 0),(28,.sl (stpRows ys) false),(29,.int .i64 (stpRows ys).length),(30,.int .i64 (j:Nat))]
def vzK (at_:Int) (ys:List Stp) (j:Nat) (s:Stp):List (Nat×V):=[(0,.int .i64 at_),(1,.bp 90 0),(2,.bp 91 0),(3,.bp 92 0),(4,.bp 93 0),(5,.bp 94 0),(6,.bp 95 0),(7,.bp 96 0),(8,.bp 97 0),(9,.bp 98 0),(10,.bp 99 0),(28,.sl (stpRows ys) false),(29,.int .i64 (stpRows ys).length),(30,.int .i64 (j:Nat)),(13,.ro s.row 0)]
def vzH (M:BunS) (D:Dist) (dst from_ most:Int) (enough:Nat) (out:List Pth) (way:List Stp) (es:List (Nat×V×V)) (c:Nat):List (Nat×List Blk):=[(90,[.rows 1 [[.int .i64 dst]] none]),(91,[.rows 1 [[.osl 101 0 0 (pthRows out).length (pthRows out).length]] none]),(92,[.rows 1 [[.int .i64 from_]] none]),(93,[.rows 1 [[.osl 104 0 0 (stpRows way).length (stpRows way).length]] none]),(94,[.rows 1 [[.dmap (mkD (datES M))]] none]),(95,[.rows 1 [[.dmap (mkD (distE D))]] none]),(96,[.rows 1 [[.omap 103 0]] none]),(97,[.rows 1 [[.int .i64 most]] none]),(98,[.rows 1 [[.int .i64 (enough:Nat)]] none]),(99,[.rows 1 [[.fn 75 [.bp 90 0,.bp 91 0,.bp 92 0,.bp 93 0,.bp 94 0,.bp 95 0,.bp 96 0,.bp 97 0,.bp 98 0,.bp 99 0]]] none]),(101,[.rows 2 (pthRows out) (some [])]),(102,[.gone]),(103,[.map es c (some [])]),(104,[.rows 4 (stpRows way) (some [])])]
def vzU:List Nat:=[90,91,92,93,94,95,96,97,98,99,101,102,103,104]
set_option maxHeartbeats 16000000 in
theorem viz_end {M:BunS}{D:Dist}{dst from_ most:Int}{enough:Nat}{out:List Pth}{way:List Stp}{es:List (Nat×V×V)}{c:Nat}(he:enough≤1000000) (ho:out.length≤enough) (hw:way.length≤1000) :
  Spec Tryz.prog 75 [.int .i64 dst,.bp 90 0,.bp 91 0,.bp 92 0,.bp 93 0,.bp 94 0,.bp 95 0,.bp 96 0,.bp 97 0,.bp 98 0,.bp 99 0] (vizI M D dst from_ most enough out way es c) (.tup []) (vizO M D dst from_ most enough (out++[⟨from_,way⟩]) way es c):=by
 have hpl:=pthRows_len out;have hsl:=stpRows_len way;have sp:=cloneSteps (stpRows way) (stpRows_sz way) (stpRows_in way) (by omega);have hnf:=stpRows_flat way;unfold vizI vizO;refine gEn env Tryz.func75 fun Γ hN hK hML=>?_;refine W.ref (Ref.adoptB 93 102 104 (l:=(stpRows way).length) (n:=(stpRows way).length) rfl rfl rfl (Nat.le_refl _) rfl rfl) ?_;rw [List.take_length];refine gGo ?_;refine gCA [] [(5,50)] [104] sp ?_ (hargs:=by repeat' (first | exact trivial | exact Lent.whole rfl rfl rfl rfl (.inl rfl) | apply And.intro)) (ok:=⟨rfl,rfl,rfl,rfl,rfl,trivial,rfl,(by show (false||(true&&((stpRows way).all fun r=>flatL r)&&true))=true;rw [hnf];rfl)⟩);(conv=>whnf);rw [stpRows_ren,forceR_eq];(conv=>whnf);refine gGl ?_;refine Or.inl ?_;(conv=>whnf);refine gGo ?_;refine ⟨⟨rfl,rfl⟩,fitsN (n:=(pthRows out).length+1) (b:=32) (by omega) (by omega),.inl ⟨rfl,rfl,?_⟩⟩;(conv=>whnf);refine gGo ?_;refine W.leG (mp:=[(90,90),(91,91),(92,92),(93,93),(94,94),(95,95),(96,96),(97,97),(98,98),(99,99),(101,101),(102,102),(103,103),(104,104)]) (bo:=[50]) (st':=⟨[],vzH M D dst from_ most enough (out++[⟨from_,way⟩]) way es c,vzU⟩)
  (LeG.mk' rfl rfl rfl trivial (.ci 90 (.cons 91 rfl rfl (.refl _) (by rw [pthRows_snoc,List.length_append];rfl) (.ci 92 (.cons 93 rfl rfl (.refl _) (rfl) (.ci 94 (.ci 95 (.ci 96 (.ci 97 (.ci 98 (.ci 99 (.cons 101 (b1:=.rows 2 (pthRows (out++[⟨from_,way⟩])) (some [])) rfl rfl (pthRows_lent rfl rfl (stpRows_pr _ _)) rfl (.ci 102 (.cons 103 rfl rfl (.refl _) (rfl) (.cons 104 rfl rfl (.refl _) (rfl) .nil)))))))))))))) rfl rfl (by rw [hK];rfl)) ?_
 (refine gM ?_;conv=>whnf);exact retH rfl (.refl _) rfl rfl rfl (by repeat' (first | exact trivial | rfl | apply And.intro))
def stepV (W:Int→List Stp) (F:Int→Option Nat) (dst from_:Int) (enough:Nat) (way:List Stp):Nat→List Pth×Nat→Stp→List Pth×Nat
 | 0,p,_=>p
 | k+1,p,s=>if goB F from_ k enough way s p.1=true then (visM W F dst from_ enough k (way++[s]) s.tt p.1,p.2+1+cntV W F dst from_ enough k (way++[s]) s.tt p.1) else p
theorem stepV_succ (W:Int→List Stp) (F:Int→Option Nat) (dst from_:Int) (enough:Nat) (way:List Stp) (k:Nat) (p:List Pth×Nat) (s:Stp):stepV W F dst from_ enough way (k+1) p s=if goB F from_ k enough way s p.1=true then (visM W F dst from_ enough k (way++[s]) s.tt p.1,p.2+1+cntV W F dst from_ enough k (way++[s]) s.tt p.1) else p:=rfl
theorem viz_fold {W:Int→List Stp}{F:Int→Option Nat}{dst from_ at_:Int}{enough k:Nat}{way:List Stp}{out:List Pth}(h:at_≠dst):(visM W F dst from_ enough k way at_ out,cntV W F dst from_ enough k way at_ out)=(W at_).foldl (stepV W F dst from_ enough way k) (out,0):=by
 cases k with
 | zero =>
  have:∀ (l:List Stp) (p:List Pth×Nat),l.foldl (stepV W F dst from_ enough way 0) p=p:=fun l=>by
   induction l with
   | nil=>intro p;rfl
   | cons s l ih=>intro p;rw [List.foldl_cons];exact ih p
  rw [this];unfold visM cntV;rw [if_neg h]
 | succ k =>
  unfold visM cntV;rw [if_neg h,if_neg h];have:∀ (l:List Stp) (p:List Pth×Nat),l.foldl (fun o s=>if goB F from_ k enough way s o=true then visM W F dst from_ enough k (way++[s]) s.tt o else o) p.1=(l.foldl (stepV W F dst from_ enough way (k+1)) p).1:=fun l=>by
   induction l with
   | nil=>intro p;rfl
   | cons s l ih =>
    intro p;rw [List.foldl_cons,List.foldl_cons,←ih];congr 1;rw [stepV_succ];split<;>rfl
  have h1:=this (W at_) (out,0);refine Prod.ext h1 rfl
theorem stepV_len {W:Int→List Stp}{F:Int→Option Nat}{dst from_:Int}{enough k:Nat}{way:List Stp}{p:List Pth×Nat}{s:Stp}(h:p.1.length≤enough+1):(stepV W F dst from_ enough way k p s).1.length≤enough+1:=by
 cases k with
 | zero=>exact h
 | succ k =>
  rw [stepV_succ];split
  ·rename_i hg;have hle:p.1.length≤enough:=by
    unfold goB at hg;split at hg
    ·cases hg
    ·simp only [Bool.and_eq_true,decide_eq_true_eq] at hg;exact hg.2
   exact (visM_len (W:=W) (F:=F) (dst:=dst) (from_:=from_) k (way++[s]) s.tt p.1 hle).1
  ·exact h
theorem stepV_skip {W:Int→List Stp}{F:Int→Option Nat}{dst from_:Int}{enough k:Nat}{way:List Stp}{p:List Pth×Nat}{s:Stp}(h:∀ k',k=k' + 1→goB F from_ k' enough way s p.1=false):stepV W F dst from_ enough way k p s=p:=by
 cases k with
 | zero=>rfl
 | succ k=>rw [stepV_succ,h k rfl,if_neg (by decide)]
theorem goB_none {F:Int→Option Nat}{from_:Int}{k enough:Nat}{way:List Stp}{s:Stp}{o:List Pth}(h:F s.tt=none):goB F from_ k enough way s o=false:=by unfold goB;rw [h]
theorem goB_some {F:Int→Option Nat}{from_:Int}{k enough n:Nat}{way:List Stp}{s:Stp}{o:List Pth}(h:F s.tt=some n):goB F from_ k enough way s o=(!decide (s.tt∈from_::way.map Stp.tt)&&decide (n≤k)&&decide (o.length≤enough)):=by unfold goB;rw [h]
def VizS (M:BunS) (D:Dist) (dst from_:Int) (most enough k:Nat):Prop:=∀ (way:List Stp) (at_:Int) (out:List Pth) (es:List (Nat×V×V)) (c:Nat),most=way.length+k→out.length≤enough→SeenE es (from_::way.map Stp.tt) →
  Spec Tryz.prog 75 [.int .i64 at_,.bp 90 0,.bp 91 0,.bp 92 0,.bp 93 0,.bp 94 0,.bp 95 0,.bp 96 0,.bp 97 0,.bp 98 0,.bp 99 0] (vizI M D dst from_ (most:Nat) enough out way es c) (.tup []) (vizO M D dst from_ (most:Nat) enough (visM (lookS M) (lookD D) dst from_ enough k way at_ out) way es (c+cntV (lookS M) (lookD D) dst from_ enough k way at_ out))
set_option maxHeartbeats 32000000 in
theorem viz_step {M:BunS}{D:Dist}{dst from_:Int}{most enough K:Nat}(he:enough≤1000000) (hmost:most≤1000) (hwl:∀ t,(lookS M t).length≤1000000) (hdl:∀ t n,lookD D t=some n→n≤4000000) (ih:∀ k,K=k+1→VizS M D dst from_ most enough k):VizS M D dst from_ most enough K:=by
 intro way at_ out es c hmk hout hse;by_cases hat:at_=dst
 ·subst hat;have h1:visM (lookS M) (lookD D) at_ from_ enough K way at_ out=out++[⟨from_,way⟩]:=by cases K<;>(unfold visM;rw [if_pos rfl])
  have h2:cntV (lookS M) (lookD D) at_ from_ enough K way at_ out=0:=by
   cases K with
   | zero=>rfl
   | succ k=>unfold cntV;rw [if_pos rfl]
  rw [h1,h2,Nat.add_zero];exact viz_end he hout (by omega)
 have hfold:=viz_fold (W:=lookS M) (F:=lookD D) (from_:=from_) (enough:=enough) (k:=K) (way:=way) (out:=out) hat;obtain ⟨r,hr1,hr2⟩:=datES_look M at_;have hwa:=hwl at_;have hys0:ixI at_ (keysS M)=none→lookS M at_=[]:=fun h=>lookS_none h;generalize hys:lookS M at_=ys at *;have hyl:=stpRows_len ys;obtain ⟨P,hP⟩:∃ P:Nat→List Pth×Nat,P=fun j=>(ys.take j).foldl (stepV (lookS M) (lookD D) dst from_ enough way K) (out,0):=⟨_,rfl⟩
 have hP0:P 0=(out,0):=by rw [hP];rfl
 have hPS:∀ (j:Nat) (hj:j<ys.length),P (j+1)=stepV (lookS M) (lookD D) dst from_ enough way K (P j) ys[j]:=fun j hj=>by
  rw [hP];simp only [List.take_succ_eq_append_getElem hj,List.foldl_append,List.foldl_cons,List.foldl_nil]
 have hPe:(visM (lookS M) (lookD D) dst from_ enough K way at_ out,cntV (lookS M) (lookD D) dst from_ enough K way at_ out)=P ys.length:=by rw [hfold,hP];simp only [List.take_length]
 have hPl:∀ j,j≤ys.length→(P j).1.length≤enough+1:=fun j=>by
  induction j with
  | zero=>intro _;rw [hP0];show out.length≤_;omega
  | succ j ihj=>intro hj;rw [hPS j hj];exact stepV_len (ihj (by omega))
 have hPe1:=congrArg Prod.fst hPe;have hPe2:=congrArg Prod.snd hPe;simp only at hPe1 hPe2;rw [hPe1,hPe2];clear hP hPe hPe1 hPe2 hfold;have hwayl:=stpRows_len way;unfold vizI vizO;refine gEn env Tryz.func75 fun Γ hN hK hML=>?_;refine W.ref (Ref.adoptB 93 102 104 (l:=(stpRows way).length) (n:=(stpRows way).length) rfl rfl rfl (Nat.le_refl _) rfl rfl) ?_;rw [List.take_length];refine W.cut (fun z=>z=⟨vzE at_,vzH M D dst from_ (most:Nat) enough (out) (way) (es) (c),vzU⟩) ?_ ?_
 ·refine gGo ?_;exact ⟨_,rfl,gY⟩
 rintro z rfl;refine W.cut (fun z=>z=⟨vzJ at_ ys 0,vzH M D dst from_ (most:Nat) enough (out) (way) (es) (c),vzU⟩) ?_ ?_
 ·refine gGo ?_;refine zok_intro (by kernel_rfl) ?_;(conv=>whnf);refine ⟨_,rfl,_,hr1,?_⟩;rcases hr2 with ⟨hix,rfl⟩ | ⟨jj,hix,rfl⟩
  ·have hy0:=hys0 hix;subst hy0;(conv=>whnf);refine gGo ?_;exact ⟨_,rfl,gY (henv:=by repeat' (first | exact trivial | exact ⟨_,.refl _,rfl⟩ | exact ⟨_,.norm _,rfl⟩ | apply And.intro))⟩
  ·(conv=>whnf);refine gGo ?_;intros;exact ⟨_,rfl,gY⟩
 rintro z rfl;refine gGo ?_;refine W.loopG (fun m st=>∃ j:Nat,j≤ys.length∧m=ys.length-j∧st=⟨vzJ at_ ys j,vzH M D dst from_ (most:Nat) enough ((P j).1) (way) (es) ((c+(P j).2)),vzU⟩)
  ys.length _ ⟨0,by omega,by omega,rfl⟩ (by rw [hP0];exact gX) ?_
 rintro m st ⟨j,hj,rfl,rfl⟩;have hPlj:=hPl j hj;have hpl:=pthRows_len (P j).1;refine gT (fun hb=>?_) fun hb=>?_
 ·have hlt:j<ys.length:=by omega
  have hg:=stpRows_get hlt;have hPs:=hPS j hlt;generalize ys[j]=s at *;generalize hP1:P (j+1)=P1 at *;generalize P j=Pj at *;refine g ?_;refine zok_intro (by kernel_rfl) ?_;(conv=>whnf);cases hF:lookD D s.tt with
  | none =>
   have hr1:mapAt (.int .i64 s.tt) (distE D)=some none:=by
    rw [distE_at];unfold lookD at hF;rw [Option.map_eq_none_iff] at hF;rw [hF];rfl
   rw [stepV_skip fun k' _=>goB_none hF] at hPs;subst hPs;refine ⟨_,rfl,_,hr1,?_⟩;(conv=>whnf);refine gGo ?_;refine ⟨ys.length-(j+1),_,by omega,⟨j+1,by omega,rfl,rfl⟩,by rw [hP1];exact gX⟩
  | some n =>
   obtain ⟨jv,hjv⟩:=distE_some hF;have hnb:=hdl _ _ hF;refine ⟨_,rfl,_,hjv,?_⟩;(conv=>whnf);refine gGo ?_;refine zok_intro (by kernel_rfl) ?_;(conv=>whnf);by_cases hm:s.tt∈from_::way.map Stp.tt
   ·obtain ⟨js,bs,hjs⟩:=hse.yes _ hm;rw [stepV_skip fun k' _=>by rw [goB_some hF,decide_eq_true hm];rfl] at hPs;subst hPs;refine ⟨_,hjs,?_⟩;(conv=>whnf);refine gGo ?_;refine ⟨ys.length-(j+1),_,by omega,⟨j+1,by omega,rfl,rfl⟩,by rw [hP1];exact gX⟩
   have hno:=hse.no _ hm;refine ⟨_,hno,?_⟩;(conv=>whnf);by_cases hnk:n+1≤K
   ·by_cases hoe:Pj.1.length≤enough
    ·obtain ⟨k,rfl⟩:∃ k,K=k+1:=⟨K-1,by omega⟩
     have hgo:goB (lookD D) from_ k enough way s Pj.1=true:=by rw [goB_some hF,decide_eq_false hm,decide_eq_true (show n≤k by omega),decide_eq_true hoe];rfl
     rw [stepV_succ,if_pos hgo] at hPs;have hlast:=hse.last hm (c+Pj.2);have hse2:SeenE (es++[(c+Pj.2,.int .i64 s.tt,.bool true)]) (from_::(way++[s]).map Stp.tt):=by
      have:=hse.snoc hm (c+Pj.2);simpa using this
     have hsp:=ih k rfl (way++[s]) s.tt Pj.1 _ (c+Pj.2+1) (by rw [List.length_append,List.length_singleton];omega) hoe hse2;have hvl:=visM_len (W:=lookS M) (F:=lookD D) (dst:=dst) (from_:=from_) k (way++[s]) s.tt Pj.1 hoe;generalize visM (lookS M) (lookD D) dst from_ enough k (way++[s]) s.tt Pj.1=o2 at *;generalize cntV (lookS M) (lookD D) dst from_ enough k (way++[s]) s.tt Pj.1=c2 at *;have hsn:stpRows (way++[s])=stpRows way++[s.row]:=by simp [stpRows]
     have hsnl:(stpRows (way++[s])).length=(stpRows way).length+1:=by rw [hsn];simp
     have hera:(es++[(c+Pj.2,V.int .i64 s.tt,V.bool true)]).eraseIdx es.length=es:=by rw [List.eraseIdx_append_of_length_le (Nat.le_refl _),Nat.sub_self];simp
     have htk:(stpRows (way++[s])).take (stpRows way).length=stpRows way:=by rw [hsn,List.take_left]
     have hcutN:(((stpRows (way++[s])).length:Int)-1).toNat=(stpRows way).length:=by omega
     unfold vizI vizO at hsp;refine gGo ?_;intros;refine ⟨⟨rowsSz_cons rfl rowsSz_nil,rfl⟩,fitsN (n:=(stpRows way).length+1) (b:=32) (by omega) (by omega),.inl ⟨rfl,rfl,?_⟩⟩;(conv=>whnf);refine gGo ?_;refine ⟨_,hno,?_⟩;(conv=>whnf);refine gGs ?_;refine W.leG (mp:=[(90,90),(91,91),(92,92),(93,93),(94,94),(95,95),(96,96),(97,97),(98,98),(99,99),(101,101),(102,102),(103,103),(104,104)]) (bo:=[13]) (st':=⟨vzK at_ ys j s,vzH M D dst from_ (most:Nat) enough (Pj.1) ((way++[s])) ((es++[(c+Pj.2,.int .i64 s.tt,.bool true)])) ((c+Pj.2+1)),vzU⟩)
      (LeG.mk' rfl rfl rfl (by repeat' (first | exact trivial | exact ⟨_,.refl _,rfl⟩ | exact ⟨_,.bp 13 0 4 s.row none rfl rfl (by simp [Stp.row]) (.inr rfl),rfl⟩ | apply And.intro)) (.ci 90 (.cons 91 rfl rfl (.refl _) (rfl) (.ci 92 (.cons 93 rfl rfl (.refl _) (by rw [hsnl];rfl) (.ci 94 (.ci 95 (.ci 96 (.ci 97 (.ci 98 (.ci 99 (.ci 101 (.ci 102 (.cons 103 rfl rfl (.refl _) (rfl) (.cons 104 rfl rfl (.refl _) (by rw [hsn];rfl) .nil)))))))))))))) rfl rfl (by rw [hK];rfl)) ?_
     refine gA ?_;(refine gE env hN (by kernel_rfl) ?_;conv=>whnf);refine gGs ?_;(refine gCA [(90,90),(91,91),(92,92),(93,93),(94,94),(95,95),(96,96),(97,97),(98,98),(99,99),(101,101),(102,104),(103,103)] [(104,105)] [] (hsp) ?_;conv=>whnf);refine gGs ?_;refine gA ?_;(refine gE env hN (by kernel_rfl) ?_;conv=>whnf);refine gGs ?_;intros;refine W.ref (Ref.adoptB 93 105 106 (l:=(((stpRows (way++[s])).length:Int)-1).toNat) (n:=(stpRows (way++[s])).length) rfl rfl rfl (by omega) rfl rfl) ?_;refine W.leG (mp:=[(90,90),(91,91),(92,92),(93,93),(94,94),(95,95),(96,96),(97,97),(98,98),(99,99),(101,101),(102,102),(103,103),(106,104)]) (bo:=[]) (st':=⟨vzK at_ ys j s,vzH M D dst from_ (most:Nat) enough (o2) (way) ((es++[(c+Pj.2,.int .i64 s.tt,.bool true)])) ((c+Pj.2+1+c2)),vzU⟩)
      (LeG.mq (.ci 90 (.ci 91 (.ci 92 (.cons 93 rfl rfl (.refl _) (by rw [←hcutN];rfl) (.ci 94 (.ci 95 (.ci 96 (.ci 97 (.ci 98 (.ci 99 (.ci 101 (.ci 102 (.ci 103 (.cons 106 rfl rfl (.refl _) (by rw [hcutN,htk];rfl) .nil))))))))))))))) ?_
     refine gGo ?_;refine ⟨_,hlast,?_⟩;(conv=>whnf);refine gGo ?_;subst hPs;refine ⟨ys.length-(j+1),_,by omega,⟨j+1,by omega,rfl,rfl⟩,[(90,90),(91,91),(92,92),(93,93),(94,94),(95,95),(96,96),(97,97),(98,98),(99,99),(101,101),(102,102),(103,103),(104,104)],[],[],LeG.mq (by rw [hP1];exact (.ci 90 (.cons 91 rfl rfl (.refl _) (rfl) (.ci 92 (.cons 93 rfl rfl (.refl _) (rfl) (.ci 94 (.ci 95 (.ci 96 (.ci 97 (.ci 98 (.ci 99 (.ci 101 (.ci 102 (.cons 103 rfl rfl (.refl _) (by rw [show c+(o2,Pj.2+1+c2).2=c+Pj.2+1+c2 by show c+(Pj.2+1+c2)=_;omega,hera];rfl) (.cons 104 rfl rfl (.refl _) (rfl) .nil)))))))))))))))⟩
    ·rw [stepV_skip fun k' _=>by rw [goB_some hF,decide_eq_false hoe];simp] at hPs;subst hPs;refine gGo ?_;intros;refine ⟨ys.length-(j+1),_,by omega,⟨j+1,by omega,rfl,rfl⟩,by rw [hP1];exact gX⟩
   ·rw [stepV_skip fun k' hk'=>by rw [goB_some hF,decide_eq_false (show ¬ n≤k' by omega)];simp] at hPs;subst hPs;refine gGo ?_;intros;refine ⟨ys.length-(j+1),_,by omega,⟨j+1,by omega,rfl,rfl⟩,by rw [hP1];exact gX⟩
 ·have hje:j=ys.length:=by omega
  rw [hje];refine gGo ?_;exact retHn rfl (.refl _) rfl rfl rfl (by repeat' (first | exact trivial | rfl | apply And.intro))
theorem viz_spec {M:BunS}{D:Dist}{dst from_:Int}{most enough:Nat}(he:enough≤1000000) (hmost:most≤1000) (hwl:∀ t,(lookS M t).length≤1000000) (hdl:∀ t n,lookD D t=some n→n≤4000000):∀ k,VizS M D dst from_ most enough k
 | 0=>viz_step he hmost hwl hdl fun k h=>by omega
 | k+1=>viz_step he hmost hwl hdl fun k' h=>by cases h;exact viz_spec he hmost hwl hdl k
theorem farS_len (n:Nat) (D:Dist) (s:Stp):D.length≤(farS n D s).length:=by
 unfold farS;split<;>simp
theorem near_fold {n:Nat}:∀ (R:List Stp) (D:Dist),Near D→n≤D.length→Near (R.foldl (farS n) D)
 | [],D,h,_=>h
 | s::R,D,h,hn=>near_fold R _ (h.farS hn) (Nat.le_trans hn (farS_len n D s))
theorem near_farR (W:Int→List Stp):∀ (k i:Nat) (D:Dist),Near D→Near (farR W k i D)
 | 0,i,D,h=>h
 | k+1,i,D,h=>by
  unfold farR;split
  ·rename_i hi;refine near_farR W k (i+1) _ ?_;unfold farT;rw [List.getElem?_eq_getElem hi];exact near_fold _ _ h (h _ (List.getElem_mem hi))
  ·exact h
theorem farM_near (l:List Table) (E:List Stp) (goal t:Int) (n:Nat) (h:lookD (farM l E goal) t=some n):n≤2*E.length+1:=by
 have h1:Near (farM l E goal):=near_farR _ _ _ _ fun p hp=>by simp at hp;subst hp;simp
 obtain ⟨j,hj⟩:=lookD_mem h;have h2:=h1 _ (List.mem_of_getElem? hj);have h3:=farM_len l E goal;exact Nat.le_trans h2 h3
theorem seen_one (t:Int):SeenE [(0,.int .i64 t,.bool true)] [t]:=by
 refine ⟨fun u hu=>?_,fun u hu=>?_⟩
 ·simp at hu;simp [mapAt,eqKey,hu]
 ·simp at hu;subst hu;exact ⟨0,0,by simp [mapAt,eqKey]⟩
set_option maxHeartbeats 16000000 in
theorem findW_spec (l:List Table) (E:List (List Int)) (from_ dst:Int) (most enough:Nat) (hE:E.length≤1000000) (hmost:most≤1000) (he:enough≤1000000):Spec Tryz.prog 33 [.dmap (mkD (datES (waysM l (stpsE E)))),.int .i64 from_,.int .i64 dst,.int .i64 (most:Nat),.int .i64 (enough:Nat)] [] (.sl (pthRows (findP l E from_ dst most enough)) false) []:=by
 have hsl:(stpsE E).length=E.length:=by unfold stpsE;rw [List.length_map]
 have spF:=far_spec l (stpsE E) dst (by omega);have hfl:=findP_len l E from_ dst most enough;have hwl:=fun t=>wayW_len l (stpsE E) t;have spV:=viz_spec (M:=waysM l (stpsE E)) (D:=farM l (stpsE E) dst) (dst:=dst) (from_:=from_) (most:=most) (enough:=enough) he hmost
  (fun t=>by have:=wayW_len l (stpsE E) t;rw [hsl] at this;exact Nat.le_trans this hE) (fun t n h=>by have:=farM_near l (stpsE E) dst t n h;omega) most [] from_ [] [(0,.int .i64 from_,.bool true)] 1 (by simp) (by simp) (seen_one from_)
 by_cases hft:from_=dst
 ·have hfp:findP l E from_ dst most enough=[⟨from_,[]⟩]:=by unfold findP;rw [if_pos hft]
  rw [hfp];clear spV spF;refine gEn env Tryz.func33 fun Γ hN hK hML=>?_;refine gGl ?_;refine Or.inl ?_;(conv=>whnf);refine gGo ?_;refine W.leG (mp:=[(21,21)]) (bo:=[]) (st':=⟨[(10,.osl 21 0 0 1 1)],[(21,[.rows 2 (pthRows [⟨from_,[]⟩]) none])],[21]⟩)
   (LeG.mq (.cons 21 (b1:=.rows 2 (pthRows [⟨from_,[]⟩]) none) rfl rfl (.rows _ _ _ ⟨⟨⟨.refl _,rfl⟩,⟨.norm _,rfl⟩,trivial⟩,trivial⟩) rfl .nil)) ?_
  refine W.leG (mp:=[]) (bo:=[21]) (st':=⟨[(10,.sl (pthRows [⟨from_,[]⟩]) false)],[],[]⟩)
   (LeG.mk' rfl rfl rfl ⟨⟨_,Lent.whole rfl rfl rfl rfl (.inr rfl),rfl⟩,trivial⟩ .nil rfl rfl (by rw [hK];rfl)) ?_
  (refine gM ?_;conv=>whnf);exact ret0 rfl rfl rfl
 ·have hfp:findP l E from_ dst most enough=sortBy ordC (visM (lookS (waysM l (stpsE E))) (lookD (farM l (stpsE E) dst)) dst from_ enough most [] from_ []):=by unfold findP;rw [if_neg hft];rfl
  have hvl:=visM_len (W:=lookS (waysM l (stpsE E))) (F:=lookD (farM l (stpsE E) dst)) (dst:=dst) (from_:=from_) (enough:=enough) most [] from_ [] (by simp);rw [hfp];generalize visM (lookS (waysM l (stpsE E))) (lookD (farM l (stpsE E) dst)) dst from_ enough most [] from_ []=O at *;generalize cntV (lookS (waysM l (stpsE E))) (lookD (farM l (stpsE E) dst)) dst from_ enough most [] from_ []=cc at *;generalize waysM l (stpsE E)=M at *;generalize farM l (stpsE E) dst=D at *;have spS:=sortPaths_spec O (by omega);have hpl:=pthRows_len O;unfold vizI vizO at spV;refine gEn env Tryz.func33 fun Γ hN hK hML=>?_;refine g ?_;refine ⟨_,rfl,?_⟩;(conv=>whnf);refine gGs ?_;refine gA ?_;(refine gE env hN (by kernel_rfl) ?_;conv=>whnf);refine gGs ?_;refine gA ?_;(refine gE env hN (by kernel_rfl) ?_;conv=>whnf);refine gGs ?_;refine W.ownCell 12 0 0 201 2 rfl rfl rfl rfl rfl ?_;refine W.ownCell 13 0 0 202 4 rfl rfl rfl rfl rfl ?_;refine W.leG (mp:=[(7,7),(12,12),(6,6),(13,13),(5,5),(11,11),(14,14),(8,8),(9,9),(15,15),(201,201),(202,202),(25,25)]) (bo:=[]) (st':=⟨[(6,.bp 6 0),(12,.bp 12 0),(15,.bp 15 0)],[(7,[.rows 1 [[.int .i64 dst]] none]),(12,[.rows 1 [[.osl 201 0 0 0 0]] none]),(6,[.rows 1 [[.int .i64 from_]] none]),(13,[.rows 1 [[.osl 202 0 0 0 0]] none]),(5,[.rows 1 [[.dmap (mkD (datES M))]] none]),(11,[.rows 1 [[.dmap (mkD (distE D))]] none]),(14,[.rows 1 [[.omap 25 0]] none]),(8,[.rows 1 [[.int .i64 (most:Nat)]] none]),(9,[.rows 1 [[.int .i64 (enough:Nat)]] none]),(15,[.rows 1 [[.fn 75 [.bp 7 0,.bp 12 0,.bp 6 0,.bp 13 0,.bp 5 0,.bp 11 0,.bp 14 0,.bp 8 0,.bp 9 0,.bp 15 0]]] none]),(201,[.rows 2 (pthRows []) (some [])]),(202,[.rows 4 (stpRows []) (some [])]),(25,[.map [(0,.int .i64 from_,.bool true)] 1 (some [])])],[7,12,6,13,5,11,14,8,9,15,201,202,25]⟩)
   (LeG.mq (.ci 7 (.ci 12 (.ci 6 (.ci 13 (.ci 5 (.ci 11 (.ci 14 (.ci 8 (.ci 9 (.ci 15 (.ci 201 (.ci 202 (.ci 25 .nil)))))))))))))) ?_
  refine gA ?_;(refine gE env hN (by kernel_rfl) ?_;conv=>whnf);refine gGs ?_;(refine gCA [(90,7),(91,12),(92,6),(93,13),(94,5),(95,11),(96,14),(97,8),(98,9),(99,15),(101,201),(102,202),(103,25)] [(104,204)] [] (spV) ?_;conv=>whnf);refine gGs ?_;refine gA ?_;(refine gE env hN (by kernel_rfl) ?_;conv=>whnf);refine gGs ?_;(refine ⟨_,_,_,callG [(0,201)] [] [] rfl rfl rfl (by kernel_rfl) (spS) (by repeat' (first | exact trivial | exact Lent.refl _ | exact Lent.norm _ | exact Lent.whole rfl rfl (by first | rfl | exact List.length_append.symm | exact hlenR | simp) rfl (by first | exact .inl rfl | exact .inr rfl) | apply And.intro)) rfl ⟨rfl,rfl,rfl,rfl,rfl,by repeat' (first | exact trivial | rfl | apply And.intro),rfl,rfl⟩,?_⟩;conv=>whnf);refine gGo ?_;refine W.leG (mp:=[]) (bo:=[201]) (st':=⟨[(10,.sl (pthRows (sortBy ordC O)) false)],[],[]⟩)
   (LeG.mk' rfl rfl rfl ⟨⟨_,Lent.whole rfl rfl (by rw [pthRows_len,pthRows_len,sortBy_len]) rfl (.inl rfl),rfl⟩,trivial⟩ .nil rfl rfl (by rw [hK];rfl)) ?_
  (refine gM ?_;conv=>whnf);exact ret0 rfl rfl rfl
end Go.Sx.Sp
