/- Candidate paths and answers, in plain words. -/
import Derived.Test.YthlokmbefpjmgaaGreatDoorRtSix
import Derived.Test.YthlokmbefpjmgaaGreatDoorSxFive
import Derived.Test.YthlokmbefpjmgaaGreatDoorExThree
import Derived.Test.YthlokmbefpjmgaaGreatDoorSxFour
set_option linter.unusedVariables false
set_option linter.unusedSimpArgs false
namespace Go.Sx.Sp
open Go Go.Sx Go.Proofs Go.Sort
attribute [local irreducible] aO famL
def pY(l:List Table)(E:List (List Int))(k:Nat)(a:Table):List Pth:=⟨a.id,[]⟩::(l.filter fun b=>decide (a.id<b.id)).flatMap fun b=>iR l E a.id b.id k
def ew(l:List Table)(E:List (List Int))(k:Nat):List Pth:=l.flatMap (pY l E k)
def exIn(l:List Table)(E:List (List Int))(k:Nat)(a:Table):List Table→List Pth→Option (List Pth)
 | [],out=>some out
 |b::bs,out=>if 1024<(if a.id<b.id then out++f9 l E a.id b.id k (1024-out.length) else out).length then none else exIn l E k a bs (if a.id<b.id then out++f9 l E a.id b.id k (1024-out.length) else out)
def iT(l:List Table)(E:List (List Int))(k:Nat):List Table→List Pth→Option (List Pth)
 | [],out=>some out
 |a::az,out=>(exIn l E k a l (out++[⟨a.id,[]⟩])).bind (iT l E k az)
def exTo(l:List Table)(E:List (List Int))(k:Nat)(a:Table)(bs:List Table):List Pth:=(bs.filter fun b=>decide (a.id<b.id)).flatMap fun b=>iR l E a.id b.id k
theorem CA(l:List Table)(E:List (List Int))(k:Nat)(a b:Table)(bs:List Table):exTo l E k a (b::bs)=(if a.id<b.id then iR l E a.id b.id k else [])++exTo l E k a bs:=by
 unfold exTo;rw[List.filter_cons];by_cases h:a.id<b.id
 ·rw[if_pos (decide_eq_true h),if_pos h,List.flatMap_cons]
 ·rw[if_neg (by simpa using h),if_neg h];rfl
theorem wc(l:List Table)(E:List (List Int))(k:Nat)(a:Table):∀(bs:List Table) (out:List Pth),
  (∀o,exIn l E k a bs out=some o→o.Perm (out++exTo l E k a bs)∧(bs≠[]→o.length≤1024))∧(exIn l E k a bs out=none→1024<(out++exTo l E k a bs).length)
 | [],out=>⟨fun o h=>(by cases h;exact⟨by simp[exTo],fun h=>absurd rfl h⟩),fun h=>(by cases h)⟩
 |b::bs,out=>by
  unfold exIn;rw[CA];by_cases hab:a.id<b.id
  ·rw[if_pos hab,if_pos hab];have hne:a.id≠b.id:=by omega
   rw[xX hne];generalize iR l E a.id b.id k=R;have hlen:(out++bw ordC (R.take (1024-out.length+1))).length=out.length+min (1024-out.length+1) R.length:=by rw[List.length_append,bX,List.length_take]
   split
   ·rename_i h;refine⟨fun o h=>(by cases h),fun _=>?_⟩;rw[hlen] at h;simp only[List.length_append];omega
   ·rename_i h;rw[hlen] at h;have hR:R.take (1024-out.length+1)=R:=List.take_of_length_le (by omega);rw[hR];have ih:=wc l E k a bs (out++bw ordC R);refine⟨fun o ho=>?_,fun ho=>?_⟩
    ·obtain⟨g1,g2⟩:=ih.1 o ho;refine⟨g1.trans ?_,fun _=>?_⟩
     ·rw[List.append_assoc];exact List.Perm.append_left _ (List.Perm.append_right _ (fS ordC R))
     ·by_cases hb:bs=[]
      ·subst hb;cases ho;rw[List.length_append,bX];omega
      ·exact g2 hb
    ·have:=ih.2 ho;simp only[List.length_append,bX] at this ⊢;omega
  ·rw[if_neg hab,if_neg hab,List.nil_append];have ih:=wc l E k a bs out;split
   ·rename_i h;refine⟨fun o h=>(by cases h),fun _=>?_⟩;rw[List.length_append];omega
   ·rename_i h;refine⟨fun o ho=>⟨(ih.1 o ho).1,fun _=>?_⟩,ih.2⟩;by_cases hb:bs=[]
    ·subst hb;cases ho;omega
    ·exact(ih.1 o ho).2 hb
theorem ym(l:List Table)(E:List (List Int))(k:Nat)(hl:l≠[]):∀(az:List Table) (out:List Pth),
  (∀o,iT l E k az out=some o→o.Perm (out++az.flatMap (pY l E k))∧(az≠[]→o.length≤1024))∧(iT l E k az out=none→1024<(out++az.flatMap (pY l E k)).length)
 | [],out=>⟨fun o h=>(by cases h;exact⟨by simp,fun h=>absurd rfl h⟩),fun h=>(by cases h)⟩
 |a::az,out=>by
  unfold iT;have h1:=wc l E k a l (out++[⟨a.id,[]⟩]);rw[List.flatMap_cons];have hcand:(out++[⟨a.id,[]⟩])++exTo l E k a l=out++pY l E k a:=by
   rw[List.append_assoc];rfl
  rw[hcand] at h1;cases hx:exIn l E k a l (out++[⟨a.id,[]⟩]) with
  |none =>
   refine⟨fun o h=>(by cases h),fun _=>?_⟩;have:=h1.2 hx;rw[←List.append_assoc,List.length_append];omega
  |some o1 =>
   obtain⟨g1,g2⟩:=h1.1 o1 hx;have ih:=ym l E k hl az o1;show(∀o,iT l E k az o1=some o→_)∧(iT l E k az o1=none→_)
   refine⟨fun o ho=>⟨(ih.1 o ho).1.trans ?_,fun _=>?_⟩,fun ho=>?_⟩
   ·rw[←List.append_assoc];exact List.Perm.append_right _ g1
   ·by_cases hb:az=[]
    ·subst hb;cases ho;exact g2 hl
    ·exact(ih.1 o ho).2 hb
   ·have:=ih.2 ho;have e:=g1.length_eq;rw[List.length_append] at this;rw[←List.append_assoc,List.length_append];omega
theorem pZ{l:List Table}(hd:(l.map Table.id).Nodup)(E:List (List Int))(k:Nat):(ew l E k).Nodup:=by
 have hstart:∀(a:Table) x,x∈pY l E k a→x.start=a.id:=fun a x hx=>by
  unfold pY at hx;rcases List.mem_cons.1 hx with rfl|hx
  ·rfl
  ·obtain⟨b,_,hx⟩:=List.mem_flatMap.1 hx;exact(jw _ _ _ _ hx).1
 have hend:∀(a b:Table) x,x∈iR l E a.id b.id k→(x.steps.map Stp.tt).getLastD a.id=b.id:=fun a b x hx=>(mR k [] a.id x hx rfl).1;unfold ew;rw[List.nodup_iff_pairwise_ne,List.pairwise_flatMap];refine⟨fun a ha=>?_,?_⟩
 ·unfold pY;rw[List.pairwise_cons];refine⟨fun x hx e=>?_,?_⟩
  ·obtain⟨b,hb,hx⟩:=List.mem_flatMap.1 hx;have h1:=of_decide_eq_true (List.mem_filter.1 hb).2;have h2:=hend a b x hx;rw[←e] at h2;have h3:a.id=b.id:=h2;omega
  ·rw[List.pairwise_flatMap];refine⟨fun b _=>List.nodup_iff_pairwise_ne.1 (tz l E a.id b.id k),?_⟩;have hp:l.Pairwise fun b c=>b.id≠c.id:=List.pairwise_map.1 (List.nodup_iff_pairwise_ne.1 hd);refine(hp.sublist List.filter_sublist).imp fun{b c} hne x hx y hy e=>?_;subst e;exact hne (by rw[←hend a b x hx,←hend a c x hy])
 ·have hp:l.Pairwise fun b c=>b.id≠c.id:=List.pairwise_map.1 (List.nodup_iff_pairwise_ne.1 hd);refine hp.imp fun{a c} hne x hx y hy e=>?_;subst e;exact hne (by rw[←hstart a x hx,←hstart c x hy])
theorem uX{W:Int→List Stp}{b from_:Int}:∀(k:Nat) (way:List Stp) (at_:Int),b∈from_::way.map Stp.tt→at_≠b→simL W b from_ k way at_=[]
 | 0,way,at_,_,hne=>by unfold simL;rw[if_neg hne]
 |k+1,way,at_,hb,hne=>by
  unfold simL;rw[if_neg hne,List.flatMap_eq_nil_iff];intro s _;split
  ·rfl
  ·rename_i hs;refine uX k _ _ ?_ (fun e=>hs (e ▸ hb));rw[List.map_append];rcases List.mem_cons.1 hb with h|h
   ·exact h ▸ List.mem_cons_self
   ·exact List.mem_cons_of_mem _ (List.mem_append_left _ h)
theorem uY{W:Int→List Stp}{b from_:Int}:∀(k:Nat) (way:List Stp) (at_:Int) (x:Pth),x∈simL W b from_ k way at_→at_≠b→∃t y,y∈W t∧y.tt=b
 | 0,way,at_,x,hx,hne=>by unfold simL at hx;rw[if_neg hne] at hx;cases hx
 |k+1,way,at_,x,hx,hne=>by
  unfold simL at hx;rw[if_neg hne] at hx;obtain⟨s,hs,hx⟩:=List.mem_flatMap.1 hx;split at hx
  ·cases hx
  ·by_cases e:s.tt=b
   ·exact⟨at_,s,hs,e⟩
   ·exact uY k _ _ x hx e
theorem sL{l:List Table}{E:List (List Int)}(hpos:∀t y,y∈wayW l (bh E) t→0≤y.tt):∀(k:Nat) (s:WS) (x:Pth),s.at_∈s.p.start::s.p.steps.map Stp.tt→0≤s.at_ →
  (x∈allG (nxR l E) (finR (-1)) (isPR (-1)) k s↔∃b,s.p.start<b∧x∈simL (wayW l (bh E)) b s.p.start k s.p.steps s.at_)
 | 0,s,x,hat,h0=>by
  unfold allG isPR;constructor
  ·intro hx;split at hx
   ·rename_i h;simp only[Option.toList_some,List.mem_singleton] at hx;subst hx;have hlt:s.p.start<s.at_:=by rcases h.2 with h|h;exact h.2;omega
    exact⟨s.at_,hlt,by unfold simL;rw[if_pos rfl];exact List.mem_singleton.2 rfl⟩
   ·cases hx
  ·rintro⟨b,hb,hx⟩;unfold simL at hx;split at hx
   ·rename_i e;simp only[List.mem_singleton] at hx;subst hx;have hne:s.p.steps≠[]:=fun h=>by rw[h] at hat;simp at hat;omega
    rw[if_pos ⟨List.length_pos_iff.2 hne,.inl ⟨by omega,by omega⟩⟩];exact List.mem_singleton.2 rfl
   ·cases hx
 |k+1,s,x,hat,h0=>by
  have hfin:finR (-1) s=false:=by unfold finR;exact decide_eq_false (by omega)
  unfold allG;rw[hfin];simp only[Bool.false_eq_true,if_false,List.mem_append,List.mem_flatMap];have hvis:∀y,y∈wayW l (bh E) s.at_→y.tt∉s.p.start::s.p.steps.map Stp.tt→∀x,(x∈allG (nxR l E) (finR (-1)) (isPR (-1)) k ⟨⟨s.p.start,s.p.steps++[y]⟩,y.tt⟩↔∃b,s.p.start<b∧x∈simL (wayW l (bh E)) b s.p.start k (s.p.steps++[y]) y.tt):=fun y hy _ x =>
   sL hpos k ⟨⟨s.p.start,s.p.steps++[y]⟩,y.tt⟩ x (by simp) (hpos _ y hy)
  constructor
  ·rintro(hx|⟨t,ht,hx⟩)
   ·unfold isPR at hx;split at hx
    ·rename_i h;simp only[Option.toList_some,List.mem_singleton] at hx;subst hx;have hlt:s.p.start<s.at_:=by rcases h.2 with h|h;exact h.2;omega
     exact⟨s.at_,hlt,by unfold simL;rw[if_pos rfl];exact List.mem_singleton.2 rfl⟩
    ·cases hx
   ·obtain⟨y,hy,hn,rfl⟩:=(AW hat).1 ht;obtain⟨b,hb,hx⟩:=(hvis y hy hn x).1 hx;refine⟨b,hb,?_⟩;unfold simL;by_cases e:s.at_=b
    ·have hbm:b∈s.p.start::(s.p.steps++[y]).map Stp.tt:=by
      rw[List.map_append];rw[e] at hat;rcases List.mem_cons.1 hat with h|h
      ·exact h ▸ List.mem_cons_self
      ·exact List.mem_cons_of_mem _ (List.mem_append_left _ h)
     rw[uX k _ _ hbm (fun e2=>hn (by rw[e2,←e];exact hat))] at hx;cases hx
    ·rw[if_neg e,List.mem_flatMap];exact⟨y,hy,by rw[if_neg hn];exact hx⟩
  ·rintro⟨b,hb,hx⟩;unfold simL at hx;split at hx
   ·rename_i e;simp only[List.mem_singleton] at hx;subst hx;have hne:s.p.steps≠[]:=fun h=>by rw[h] at hat;simp at hat;omega
    left;unfold isPR;rw[if_pos ⟨List.length_pos_iff.2 hne,.inl ⟨by omega,by omega⟩⟩];exact List.mem_singleton.2 rfl
   ·obtain⟨y,hy,hx⟩:=List.mem_flatMap.1 hx;split at hx
    ·cases hx
    ·rename_i hn;right;exact⟨_,(AW hat).2 ⟨y,hy,hn,rfl⟩,(hvis y hy hn x).2 ⟨b,hb,hx⟩⟩
def p5(l:List Table)(E:List (List Int))(k:Nat)(t:Table)(out:List Pth):List Pth:=l9 l E (-1) k ⟨⟨t.id,[]⟩,t.id⟩ out
def kn(l:List Table)(E:List (List Int))(k:Nat):List Table→List Pth→Option (List Pth)
 | [],out=>some out
 |t::ts,out=>if 1024<(p5 l E k t out).length then none else kn l E k ts (p5 l E k t out)
def c9:List Table→List Pth→List Pth
 | [],out=>out
 |t::ts,out=>c9 ts (putZ ordC out ⟨t.id,[]⟩)
theorem sM:∀(ts:List Table) (out:List Pth),AscC ordC out→AscC ordC (c9 ts out)∧(∀x,x∈c9 ts out↔x∈out∨∃t∈ts,x=⟨t.id,[]⟩)∧(c9 ts out).length≤out.length+ts.length
 | [],out,h=>⟨h,fun x=>by simp[c9],Nat.le_refl _⟩
 |t::ts,out,h=>by
  obtain⟨h1,h2,h3⟩:=sM ts (putZ ordC out ⟨t.id,[]⟩) (xN dp _ h);refine⟨h1,fun x=>?_,?_⟩
  ·show x∈c9 ts _↔_;rw[h2,xO dp,or_assoc];simp only[List.mem_cons,exists_eq_or_imp]
  ·have:=(nF ordC out ⟨t.id,[]⟩).2;show(c9 ts _).length≤_;rw[List.length_cons];omega
theorem uZ{l:List Table}{E:List (List Int)}{k:Nat}(A:Table→List Pth):∀(ts:List Table) (out:List Pth),(∀t∈ts,∀o,WalkOK ordC 1024 o (p5 l E k t o) (A t))→AscC ordC out →
  (∀o,kn l E k ts out=some o→AscC ordC o∧(ts≠[]→o.length≤1024)∧∀x,x∈o↔x∈out∨∃t∈ts,x∈A t) ∧
  (kn l E k ts out=none→∃o,AscC ordC o∧1024<o.length∧∀x∈o,x∈out∨∃t∈ts,x∈A t)
 | [],out,_,ha=>⟨fun o h=>(by cases h;exact⟨ha,fun h=>absurd rfl h,fun x=>by simp⟩),fun h=>(by cases h)⟩
 |t::ts,out,hw,ha=>by
  have w:=hw t List.mem_cons_self out;unfold kn;generalize p5 l E k t out=o1 at *;have ha1:=w.asc ha;have ih:=uZ A ts o1 (fun u hu=>hw u (List.mem_cons_of_mem _ hu)) ha1;split
  ·rename_i hlt;refine⟨fun o h=>(by cases h),fun _=>⟨o1,ha1,hlt,fun x hx=>?_⟩⟩;rcases w.new x hx with h|h
   ·exact .inl h
   ·exact .inr ⟨t,List.mem_cons_self,h⟩
  ·rename_i hle;have hall:=w.full.resolve_left hle;refine⟨fun o ho=>?_,fun ho=>?_⟩
   ·obtain⟨g1,g2,g3⟩:=ih.1 o ho;refine⟨g1,fun _=>?_,fun x=>?_⟩
    ·by_cases hb:ts=[]
     ·subst hb;cases ho;omega
     ·exact g2 hb
    ·rw[g3];constructor
     ·rintro(h|⟨u,hu,h⟩)
      ·rcases w.new x h with h|h
       ·exact .inl h
       ·exact .inr ⟨t,List.mem_cons_self,h⟩
      ·exact .inr ⟨u,List.mem_cons_of_mem _ hu,h⟩
     ·rintro(h|⟨u,hu,h⟩)
      ·exact .inl (w.sub x h)
      ·rcases List.mem_cons.1 hu with rfl|hu
       ·exact .inl (hall x h)
       ·exact .inr ⟨u,hu,h⟩
   ·obtain⟨o,g1,g2,g3⟩:=ih.2 ho;refine⟨o,g1,g2,fun x hx=>?_⟩;rcases g3 x hx with h|⟨u,hu,h⟩
    ·rcases w.new x h with h|h
     ·exact .inl h
     ·exact .inr ⟨t,List.mem_cons_self,h⟩
    ·exact .inr ⟨u,List.mem_cons_of_mem _ hu,h⟩
def bK(l:List Table)(E:List (List Int))(steps:Int):List Pth×Int:=
 if bO l=true then(if 0≤steps∧steps≤4 then(if(ew l E steps.toNat).length≤1024 then(bw ordC (ew l E steps.toNat),0) else([],3)) else([],2)) else([],1)
theorem EA{l:List Table}{E:List (List Int)}{k:Nat}(hd:(l.map Table.id).Nodup):((iT l E k l []).map (bw ordC)).elim (([],3):List Pth×Int) (fun o=>(o,0))=if(ew l E k).length≤1024 then(bw ordC (ew l E k),0) else([],3):=by
 by_cases hl:l=[]
 ·subst hl;simp[iT,ew]
 ·obtain⟨h1,h2⟩:=ym l E k hl l [];have hnd:=pZ hd E k;cases hx:iT l E k l [] with
  |none =>
   have:=h2 hx;rw[if_neg (by unfold ew;rw[List.nil_append] at this;omega)];rfl
  |some o =>
   obtain⟨g1,g2⟩:=h1 o hx;rw[List.nil_append] at g1;have g3:=g2 hl;have e:=g1.length_eq;rw[if_pos (show(ew l E k).length≤1024 by unfold ew;omega)];show(bw ordC o,(0:Int))=_;rw[rZ dp (mO dp (g1.nodup_iff.2 hnd)) (mO dp hnd) fun x=>by rw[eF,eF];exact g1.mem_iff]
theorem CB{l:List Table}{E:List (List Int)}{k:Nat}(hl:bO l=true)(hd:(l.map Table.id).Nodup)(hid:∀t∈l,0≤t.id) :
  (kn l E k l (c9 l [])).elim (([],3):List Pth×Int) (fun o=>(o,0))=if(ew l E k).length≤1024 then(bw ordC (ew l E k),0) else([],3):=by
 have hget:∀t y,y∈wayW l (bh E) t→∃b∈l,b.id=y.tt:=fun t y hy=>by
  have h1:=(ya hy).2;unfold getC at h1;cases hf:bL l y.tt with
  |none=>rw[hf] at h1;simp at h1
  |some b=>exact⟨b,List.mem_of_find?_eq_some hf,by simpa using List.find?_some hf⟩
 have hpos:∀t y,y∈wayW l (bh E) t→0≤y.tt:=fun t y hy=>by
  obtain⟨b,hb,e⟩:=hget t y hy;rw[←e];exact hid b hb
 obtain⟨s1,s2,s3⟩:=sM l [] List.Pairwise.nil;obtain⟨h1,h2⟩:=uZ (l:=l) (E:=E) (k:=k) (fun t=>allG (nxR l E) (finR (-1)) (isPR (-1)) k ⟨⟨t.id,[]⟩,t.id⟩) l (c9 l []) (fun t _ o=>xQ dp k _ o) s1;have hm:∀x,(x∈c9 l []∨∃t∈l,x∈allG (nxR l E) (finR (-1)) (isPR (-1)) k ⟨⟨t.id,[]⟩,t.id⟩)↔x∈ew l E k:=fun x=>by
  rw[s2];unfold ew;rw[List.mem_flatMap];constructor
  ·rintro(h|⟨t,ht,hx⟩)
   ·rcases h with h|⟨t,ht,rfl⟩
    ·cases h
    ·exact⟨t,ht,List.mem_cons_self⟩
   ·obtain⟨b,hb,hx⟩:=(sL hpos k ⟨⟨t.id,[]⟩,t.id⟩ x List.mem_cons_self (hid t ht)).1 hx;have hb:t.id<b:=hb;obtain⟨u,y,hy,e⟩:=uY _ _ _ _ hx (by show t.id≠b;omega);obtain⟨c,hc,e2⟩:=hget u y hy;refine⟨t,ht,List.mem_cons_of_mem _ (List.mem_flatMap.2 ⟨c,List.mem_filter.2 ⟨hc,decide_eq_true (by omega)⟩,?_⟩)⟩;rw[e2,e];exact hx
  ·rintro⟨t,ht,hx⟩;rcases List.mem_cons.1 hx with rfl|hx
   ·exact .inl (.inr ⟨t,ht,rfl⟩)
   ·obtain⟨b,hb,hx⟩:=List.mem_flatMap.1 hx;exact .inr ⟨t,ht,(sL hpos k ⟨⟨t.id,[]⟩,t.id⟩ x List.mem_cons_self (hid t ht)).2 ⟨b.id,of_decide_eq_true (List.mem_filter.1 hb).2,hx⟩⟩
 have hnd:=pZ hd E k;cases hx:kn l E k l (c9 l []) with
 |none =>
  obtain⟨o,g1,g2,g3⟩:=h2 hx;have:=(g1.nodup dp).length_le_of_subset fun x hx=>(hm x).1 (g3 x hx);rw[if_neg (by omega)];rfl
 |some o =>
  obtain⟨g1,g2,g3⟩:=h1 o hx;have hmo:∀x,x∈o↔x∈ew l E k:=fun x=>(g3 x).trans (hm x);have hle:(ew l E k).length≤1024:=by
   by_cases hb:l=[]
   ·subst hb;simp[ew]
   ·have:=hnd.length_le_of_subset fun x hx=>(hmo x).2 hx;have:=g2 hb;omega
  rw[if_pos hle];show(o,(0:Int))=_;rw[rZ dp g1 (mO dp hnd) fun x=>by rw[hmo,eF]]
structure Fnd where
 p:Pth
 cs:List Rf
 rows:Int
 deriving DecidableEq
def Fnd.row(x:Fnd):List V:=[.int .i64 x.p.start,.sl (ae x.p.steps) false,.sl [] false,.sl (ap x.cs) false,.int .i64 x.rows]
def av(l:List Fnd):List (List V):=l.map Fnd.row
theorem bE(l:List Fnd):(av l).length=l.length:=by simp[av]
theorem iU{l:List Fnd}{i:Nat}(h:i<l.length):(av l)[i]?=some l[i].row:=by simp[av,h]
theorem we(l:List Fnd)(x:Fnd):av (l++[x])=av l++[x.row]:=by simp[av]
section
variable {α:Type}
def cQ:List (List α)→List (List α)
 | []=>[[]]
 |f::fs=>f.flatMap fun x=>(cQ fs).map (x::·)
theorem sN(f:List α):∀fs:List (List α),cQ (fs++[f])=(cQ fs).flatMap fun c=>f.map fun x=>c++[x]
 | []=>by
  show f.flatMap (fun x=>[[x]])=([[]]:List (List α)).flatMap fun c=>f.map fun x=>c++[x]
  rw[List.flatMap_singleton,List.flatMap_def]
  induction f with
  |nil=>rfl
  |cons a f ih=>simpa using ih
 |g::fs=>by
  show g.flatMap (fun x=>(cQ (fs++[f])).map (x::·))=_;rw[sN f fs];show _=(g.flatMap fun x=>(cQ fs).map (x::·)).flatMap _;rw[List.flatMap_assoc];refine congrArg (fun h=>g.flatMap h) (funext fun x=>?_);rw[List.map_flatMap,List.flatMap_map];refine congrArg (fun h=>(cQ fs).flatMap h) (funext fun c=>?_);rw[List.map_map];rfl
def cw(R:List α):Nat→List (List α)
 | 0=>[[]]
 |n+1=>(cw R n).flatMap fun c=>R.map fun r=>c++[r]
theorem me(R:List α):∀n,cw R n=cQ (List.replicate n R)
 | 0=>rfl
 |n+1=>by
  show(cw R n).flatMap _=_;rw[me R n,List.replicate_succ',sN]
theorem gk(R:List α):∀n,∀c∈cw R n,c.length=n∧∀r∈c,r∈R
 | 0,c,hc=>by
  have:c=[]:=List.mem_singleton.1 hc;subst this;exact⟨rfl,fun r hr=>by cases hr⟩
 |n+1,c,hc=>by
  obtain⟨d,hd,hc⟩:=List.mem_flatMap.1 hc;obtain⟨r,hr,rfl⟩:=List.mem_map.1 hc;obtain⟨h1,h2⟩:=gk R n d hd;refine⟨by simp[h1],fun x hx=>?_⟩;rcases List.mem_append.1 hx with hx|hx
  ·exact h2 x hx
  ·rw[List.mem_singleton.1 hx];exact hr
theorem e7(R:List α):∀n,(cw R n).length=R.length ^ n
 | 0=>rfl
 |n+1=>by
  show((cw R n).flatMap _).length=_;rw[List.length_flatMap];have:(cw R n).map (fun c=>(R.map fun r=>c++[r]).length)=List.replicate (cw R n).length R.length:=by
   rw[←List.map_const'];exact List.map_congr_left fun c _=>by rw[List.length_map]
  rw[this,List.sum_replicate_nat,e7 R n,Nat.pow_succ]
def allQ:List (α→Bool)→List α→Bool
 |p::ps,x::xs=>p x&&allQ ps xs
 |_,_=>true
theorem p6{β:Type}(f:α→List β)(g:α→List β)(q:β→Bool)(p:α→Bool)(h1:∀x,p x=true→(g x).filter q=f x)(h0:∀x,p x=false→(g x).filter q=[]):∀R:List α,(R.filter p).flatMap f=(R.flatMap g).filter q
 | []=>rfl
 |r::R=>by
  have ih:=p6 f g q p h1 h0 R;rw[List.flatMap_cons,List.filter_append,←ih,List.filter_cons];cases h:p r with
  |true=>rw[if_pos rfl,List.flatMap_cons,h1 r h]
  |false=>rw[if_neg (by decide),h0 r h,List.nil_append]
theorem nX(R:List α):∀ps:List (α→Bool),cQ (ps.map fun p=>R.filter p)=(cQ (List.replicate ps.length R)).filter (allQ ps)
 | []=>rfl
 |p::ps=>by
  show(R.filter p).flatMap (fun x=>(cQ (ps.map fun p=>R.filter p)).map (x::·))=(R.flatMap fun x=>(cQ (List.replicate ps.length R)).map (x::·)).filter _;rw[nX R ps];refine p6 _ _ _ p (fun x hx=>?_) (fun x hx=>?_) R
  ·rw[List.filter_map];refine congrArg (List.map (x::·)) (List.filter_congr fun c _=>?_);show(p x&&allQ ps c)=_;rw[hx,Bool.true_and]
  ·rw[List.filter_map,List.map_eq_nil_iff,List.filter_eq_nil_iff];intro c _ h;have h:(p x&&allQ ps c)=true:=h;rw[hx] at h;cases h
end
def yo(c:Column):Bool:=c.cells.any fun x=>!x.null
def bx(t:Table)(n:Nat):List Rf:=((List.range n).filter fun i=>yo (t.cols.getD i ⟨[],[]⟩)).map fun i:Nat=>(⟨t.id,(i:Int)⟩:Rf)
def dr(ts:List Table):List Rf:=ts.flatMap fun t=>bx t t.cols.length
theorem sO(t:Table)(n:Nat):bx t (n+1)=if yo (t.cols.getD n ⟨[],[]⟩)=true then bx t n++[⟨t.id,(n:Int)⟩] else bx t n:=by
 unfold bx;rw[List.range_succ,List.filter_append,List.map_append,List.filter_cons];split<;>simp
theorem lR(t:Table)(n:Nat):(bx t n).length≤n:=by
 unfold bx;rw[List.length_map];exact Nat.le_trans (List.length_filter_le _ _) (by simp)
theorem CC{t:Table}{n:Nat}{r:Rf}(h:r∈bx t n):r.t=t.id∧∃i,i<n∧r.c=(i:Int):=by
 obtain⟨i,hi,rfl⟩:=List.mem_map.1 h;exact⟨rfl,i,List.mem_range.1 (List.mem_filter.1 hi).1,rfl⟩
theorem sP{l:List Table}{n:Int}(h:0<(aT l n).cols.length∨(bL l n).isSome=true):(aT l n).id=n∧(bL l n).isSome=true:=by
 unfold aT at h ⊢;cases hf:bL l n with
 |none =>
  rw[hf] at h;rcases h with h|h
  ·simp[Table.zero] at h
  ·cases h
 |some t=>exact⟨by simpa using List.find?_some hf,rfl⟩
theorem o9{l:List Table}{p:Pth}(h:aD l p=0):(aT l p.start).id=p.start∧∀s∈p.steps,(aT l s.tt).id=s.tt:=by
 have hb:=(aI h).2.2;refine⟨?_,fun s hs=>?_⟩
 ·unfold iO at hb;rw[Bool.and_eq_true] at hb;exact(sP (.inr hb.1)).1
 ·obtain⟨i,hi,rfl⟩:=List.getElem_of_mem hs;have h1:=(cN hb hi).tc;have e:br p i=p.steps[i]:=by simp[br,hi]
  rw[e] at h1;exact(sP (.inl (by omega))).1
theorem sQ{l:List Table}{p:Pth}(h:aD l p=0):(aG l p).map Table.id=fW p:=by
 obtain⟨h1,h2⟩:=o9 h;unfold aG fW;rw[xW,List.map_cons,h1,List.map_map];exact congrArg (p.start::·) (List.map_congr_left fun s hs=>h2 s hs)
theorem u5{l:List Table}{p:Pth}(h:aD l p=0){r:Rf}(hr:r∈dr (aG l p)):hasB l p r=true:=by
 obtain⟨t,ht,hr⟩:=List.mem_flatMap.1 hr;obtain⟨h1,i,hi,hc⟩:=CC hr;have hm:r.t∈fW p:=by rw[←sQ h,h1];exact List.mem_map_of_mem ht
 have hto:aT l r.t=t:=by
  obtain⟨g1,g2⟩:=o9 h;unfold aG at ht;rcases List.mem_cons.1 ht with rfl|ht
  ·rw[h1,g1]
  ·obtain⟨s,hs,rfl⟩:=List.mem_map.1 ht;rw[h1,g2 s hs]
 unfold hasB;rw[decide_eq_true hm,Bool.and_true];have hlt:0<(aT l r.t).cols.length:=by rw[hto];omega
 have hf:=(sP (.inl hlt)).2;unfold getC;unfold aT at hto;cases hx:bL l r.t with
 |none=>rw[hx] at hf;cases hf
 |some b =>
  rw[hx] at hto;have hto:b=t:=hto;subst hto;show(if 0≤r.c∧r.c<(b.cols.length:Int) then b.cols[r.c.toNat]? else none).isSome=true;rw[if_pos (by omega)];rw[hc,Int.toNat_natCast,List.getElem?_eq_getElem hi];rfl
def de(l:List Table)(p:Pth)(r:Rf):List Cell:=(a6 l p).map (iE l p r)
theorem ko(l:List Table)(p:Pth)(r:Rf):(de l p r).length=(a6 l p).length:=by simp[de]
def e9(l:List Table)(p:Pth)(cs:List Rf):Table:=⟨0,[],cs.map fun r=>⟨[],de l p r⟩⟩
def Fw(C:List (List Cell))(q:Table):Bool:=decide (C.length=q.cols.length)&&(List.range (ab q)).all fun k=>(List.range (C.getD 0 []).length).any fun i=>(List.range q.cols.length).all fun c=>(ay q c k).null ||fitC (ay q c k) ((C.getD c []).getD i ⟨false,[]⟩)
theorem A1(t q:Table):dz t q=Fw (t.cols.map Column.cells) q:=by
 have h1:ab t=((t.cols.map Column.cells).getD 0 []).length:=by
  unfold ab;cases t.cols<;>rfl
 have h2:∀c i,ay t c i=((t.cols.map Column.cells).getD c []).getD i ⟨false,[]⟩:=fun c i=>by
  unfold ay;congr 1;rw[List.getD_eq_getElem?_getD,List.getD_eq_getElem?_getD,List.getElem?_map];cases t.cols[c]?<;>rfl
 unfold dz anyB agB Fw;rw[List.length_map,h1];simp only[h2]
theorem p7(l:List Table)(p:Pth)(cs:List Rf):(mU l ⟨p,[],cs⟩).cols.map Column.cells=(e9 l p cs).cols.map Column.cells:=by
 unfold mU e9 Ex de;rw[List.map_map,List.map_map];rfl
theorem yp(l:List Table)(p:Pth)(cs:List Rf)(q:Table):dz (mU l ⟨p,[],cs⟩) q=dz (e9 l p cs) q:=by
 rw[A1,A1,p7]
theorem sR(l:List Table)(p:Pth)(cs:List Rf):eQ (e9 l p cs):=fun c hc=>by
 obtain⟨r,hr,rfl⟩:=List.mem_map.1 hc;unfold ab e9;cases cs with
 |nil=>cases hr
 |cons r0 cs=>show(de l p r).length=(de l p r0).length;rw[ko,ko]
theorem mW(l:List Table)(p:Pth)(cs:List Rf):ab (e9 l p cs)≤(a6 l p).length:=by
 unfold ab e9;cases cs with
 |nil=>exact Nat.zero_le _
 |cons r0 cs=>show(de l p r0).length≤_;rw[ko];exact Nat.le_refl _
def nY(p:Pth):Int:=(p.steps.map Stp.tt).getLastD p.start
def u6(p:Pth)(cs:List Rf):Bool:=decide (p.steps.length=0) ||(cs.any (fun r=>decide (r.t=p.start))&&cs.any fun r=>decide (r.t=nY p))
def ansB(l:List Table)(p:Pth)(q:Table)(cs:List Rf):Bool:=u6 p cs&&dz (e9 l p cs) q
def mkF(l:List Table)(p:Pth)(cs:List Rf):Fnd:=⟨p,cs,((a6 l p).length:Int)⟩
def ansL(l:List Table)(q:Table)(p:Pth):List Fnd:=((cw (dr (aG l p)) q.cols.length).filter (ansB l p q)).map (mkF l p)
def dT(cells:List Cell)(c:Column):Bool:=c.cells.all fun x=>x.null ||cells.any fun y=>!y.null&&decide (y.text=x.text)
def visF(P:List Rf→Bool)(mk:List Rf→Fnd):List (List Rf)→List Rf→List Fnd→List Fnd
 | [],cs,out=>if P cs=true then out++[mk cs] else out
 |f::fs,cs,out=>f.foldl (fun o r=>visF P mk fs (cs++[r]) o) out
theorem wg(P:List Rf→Bool)(mk:List Rf→Fnd):∀(fs:List (List Rf)) (cs:List Rf) (out:List Fnd),visF P mk fs cs out=out++((cQ fs).filter fun c=>P (cs++c)).map fun c=>mk (cs++c)
 | [],cs,out=>by
  unfold visF cQ;rw[List.filter_cons,List.append_nil];split<;>simp
 |f::fs,cs,out=>by
  unfold visF;show _=out++((f.flatMap fun x=>(cQ fs).map (x::·)).filter _).map _;have h:∀(l:List Rf) (o:List Fnd),l.foldl (fun o r=>visF P mk fs (cs++[r]) o) o=o++((l.flatMap fun x=>(cQ fs).map (x::·)).filter fun c=>P (cs++c)).map fun c=>mk (cs++c):=by
   intro l
   induction l with
   |nil=>intro o;simp
   |cons r l ih =>
    intro o;rw[List.foldl_cons,ih,wg P mk fs,List.flatMap_cons,List.filter_append,List.map_append,List.append_assoc];congr 1;congr 1;rw[List.filter_map,List.map_map];refine congr (congrArg List.map (funext fun c=>?_)) (List.filter_congr fun c _=>?_)
    ·show mk (cs++[r]++c)=mk (cs++r::c);rw[List.append_assoc];rfl
    ·show P (cs++[r]++c)=P (cs++r::c);rw[List.append_assoc];rfl
  exact h f out
theorem A2{α:Type}:∀(ps:List (α→Bool)) (cs:List α),(∀i (h1:i<ps.length) (h2:i<cs.length),ps[i] cs[i]=true)→allQ ps cs=true
 | [],_,_=>rfl
 |_::_,[],_=>rfl
 |p::ps,x::xs,h=>by
  show(p x&&allQ ps xs)=true;rw[show p x=true from h 0 (by simp) (by simp),Bool.true_and];exact A2 ps xs fun i h1 h2=>h (i+1) (by simpa using h1) (by simpa using h2)
theorem Ae{l:List Table}{p:Pth}{q:Table}{cs:List Rf}(hq:eQ q)(h:dz (e9 l p cs) q=true){i:Nat}(h1:i<q.cols.length)(h2:i<cs.length):dT (de l p cs[i]) q.cols[i]=true:=by
 unfold dz at h;rw[Bool.and_eq_true] at h;have hall:=List.all_eq_true.1 h.2;unfold dT;rw[List.all_eq_true];intro x hx;obtain⟨k,hk,rfl⟩:=List.getElem_of_mem hx;have hkq:k<ab q:=by rw[←hq _ (List.getElem_mem h1)];exact hk
 have ha:=hall k (List.mem_range.2 hkq);unfold anyB at ha;obtain⟨j,hj,hag⟩:=List.any_eq_true.1 ha;unfold agB at hag;have hc:=List.all_eq_true.1 hag i (List.mem_range.2 h1);have hcell:ay q i k=q.cols[i].cells[k]:=by
  unfold ay;rw[List.getD_eq_getElem?_getD (l:=q.cols),List.getElem?_eq_getElem h1];simp[hk]
 rw[hcell] at hc;cases hn:(q.cols[i].cells[k]).null with
 |true=>rfl
 |false =>
  rw[hn,Bool.false_or] at hc;rw[Bool.false_or,List.any_eq_true];unfold fitC at hc;simp only[hn,Bool.not_false,Bool.true_and,Bool.and_eq_true,Bool.not_eq_true',decide_eq_true_eq] at hc;refine⟨ay (e9 l p cs) i j,?_,by rw[hc.1,decide_eq_true hc.2.symm];rfl⟩;have hjl:j<(de l p cs[i]).length:=by
   have:=mW l p cs;have:=List.mem_range.1 hj;rw[ko];omega
  have hcell2:ay (e9 l p cs) i j=(de l p cs[i])[j]:=by
   unfold ay e9;rw[List.getD_eq_getElem?_getD (l:=cs.map _),List.getElem?_map,List.getElem?_eq_getElem h2];show(de l p cs[i]).getD j _=_;rw[List.getD_eq_getElem?_getD,List.getElem?_eq_getElem hjl];rfl
  rw[hcell2];exact List.getElem_mem _
theorem EB{l:List Table}{p:Pth}{q:Table}(hq:eQ q)(out:List Fnd):visF (ansB l p q) (mkF l p) (q.cols.map fun c=>(dr (aG l p)).filter fun r=>dT (de l p r) c) [] out=out++ansL l q p:=by
 rw[wg];congr 1;unfold ansL;rw[show(q.cols.map fun c=>(dr (aG l p)).filter fun r=>dT (de l p r) c)=((q.cols.map fun c r=>dT (de l p r) c).map fun P=>(dr (aG l p)).filter P) by rw[List.map_map];rfl,nX,List.length_map,←me,List.filter_filter];simp only[List.nil_append];refine congrArg _ (List.filter_congr fun cs hcs=>?_);obtain⟨hlen,_⟩:=gk _ _ cs hcs;cases hb:ansB l p q cs with
 |false=>rw[Bool.false_and]
 |true =>
  rw[Bool.true_and];unfold ansB at hb;rw[Bool.and_eq_true] at hb;refine A2 _ _ fun i h1 h2=>?_;rw[List.length_map] at h1;rw[List.getElem_map];exact Ae hq hb.2 h1 h2
def cP(l:List Table)(q:Table)(p:Pth):List Fnd:=if(a6 l p).length≤4096 then ansL l q p else []
def fndC(a b:Fnd):Int:=orL [cmpJ (a.p.steps.length:Nat) (b.p.steps.length:Nat),cmpJ a.rows b.rows,ordC a.p b.p,lexC refC a.cs b.cs]
def exE(q:Table):Int:=if aR q=true then(if q.cols.length=0∨3<q.cols.length then 3 else 0) else 1
def nZ(l:List Table)(E:List (List Int))(q:Table)(steps k:Int):List Fnd×Int:=
 if 0≤k∧k≤1024 then(if exE q=0 then(if(bK l E steps).2=0 then((bw fndC ((bK l E steps).1.flatMap (cP l q))).take k.toNat,0) else([],(bK l E steps).2)) else([],exE q)) else([],2)
theorem n7{l:List Table}{E:List (List Int)}{steps:Int}{p:Pth}(h:p∈(bK l E steps).1):bO l=true∧(0≤steps∧steps≤4)∧p∈ew l E steps.toNat:=by
 unfold bK at h;split at h
 ·rename_i h1;split at h
  ·rename_i h2;split at h
   ·exact⟨h1,h2,(eF ordC).1 h⟩
   ·cases h
  ·cases h
 ·cases h
theorem p8{l:List Table}{E:List (List Int)}{k:Nat}{p:Pth}(hl:bO l=true)(hk:k≤4)(h:p∈ew l E k):aD l p=0:=by
 unfold ew at h;obtain⟨a,ha,h⟩:=List.mem_flatMap.1 h;have hf:(bL l a.id).isSome=true:=by
  unfold bL;rw[List.find?_isSome];exact⟨a,ha,by simp⟩
 unfold pY at h;rcases List.mem_cons.1 h with rfl|h
 ·unfold aD;rw[if_pos hl,if_pos (by simp),if_pos];exact mD hf fun j hj=>(by simp at hj)
 ·obtain⟨b,_,h⟩:=List.mem_flatMap.1 h;exact(tB hl hf hk h).1
end Go.Sx.Sp
