/- Relations of a list, drawn paths, rows of paths as the document tells them. -/
import Derived.Test.YthlokmbefpjmgaaGreatDoorJFive
import Derived.Test.YthlokmbefpjmgaaGreatDoorSxFive
import Derived.Test.YthlokmbefpjmgaaGreatDoorJFour
import Derived.Test.YthlokmbefpjmgaaGreatDoorSxFour
set_option linter.unusedVariables false
set_option linter.unusedSimpArgs false
set_option maxHeartbeats 32000000
namespace Go.Sx.Sp
open Go Go.Sx Go.Proofs
attribute [local irreducible] aO famL
theorem rJ(r0 r1 r2 r3 r6 r7 r8 r9 r10:Int)(x y:Nat)(hx0:x≠0)(hx:x≤4096)(hy:y≤4096):Spec Tryz.prog 68 [.agg (eV [r0,r1,r2,r3,x,y,r6,r7,r8,r9,r10])] [] (.agg (eJ (bZ x (x+y)).1 (bZ x (x+y)).2)) []:=by
 have sp:=ur x (x+y) (by omega) (by omega) (by omega);rw[Int.natCast_add] at sp;generalize (bZ x (x+y)).1=p at *;generalize (bZ x (x+y)).2=q at *;refine gEn env Tryz.func68 fun Γ hN hK hML=>?_;refine g ?_;(refine gM ?_;conv=>whnf);exact retH rfl (.norm _) rfl rfl rfl trivial
theorem xw(r0 r1 r2 r3 r4 r5 r6 r7 r8 r9 r10:Int):Spec Tryz.prog 69 [.agg (eV [r0,r1,r2,r3,r4,r5,r6,r7,r8,r9,r10])] [] (.agg (eV [r2,r3,r0,r1,r4,r6,r5,r8,r7,r10,r9])) []:=by
 refine gEn env Tryz.func69 fun Γ hN hK hML=>?_;refine gGo ?_;(refine gM ?_;conv=>whnf);exact retH rfl (.norm _) rfl rfl rfl trivial
theorem xx:∀(l:List Table),ascB l=true↔∀i (h:i+1<l.length),l[i].id<l[i+1].id
 | []=>by simp[ascB]
 | [a]=>by simp[ascB]
 |a::b::r=>by
  have ih:=xx (b::r);simp only[ascB,Bool.and_eq_true,decide_eq_true_eq,ih];constructor
  ·rintro⟨h1,h2⟩ i hi;cases i with
   |zero=>exact h1
   |succ i=>exact h2 i (by simp at hi ⊢;omega)
  ·intro h;refine⟨h 0 (by simp),fun i hi=>?_⟩;exact h (i+1) (by simp at hi ⊢;omega)
theorem oS(l:List Table):bO l=true↔(∀i (h:i<l.length),aR l[i]=true)∧(∀i (h:i+1<l.length),l[i].id<l[i+1].id)∧l.length≤1024:=by
 unfold bO;simp only[Bool.and_eq_true,decide_eq_true_eq,xx,List.all_eq_true];constructor
 ·rintro⟨h1,h2,h3⟩;exact⟨fun i h=>h3 _ (List.getElem_mem h),h1,h2⟩
 ·rintro⟨h1,h2,h3⟩;refine⟨h2,h3,fun t ht=>?_⟩;obtain⟨i,h,rfl⟩:=List.getElem_of_mem ht;exact h1 i h
theorem fZ(l:List Table):Spec Tryz.prog 36 [.sl (aa l) false] [] (.bool (bO l)) []:=by
 have hl:=aP l;refine gEn env Tryz.func36 fun Γ hN hK hML=>?_;refine gGo ?_;intros;refine W.loopG (fun n st=>∃k:Nat,k≤l.length∧(∀i (h:i<l.length),i<k→aR l[i]=true)∧(∀i (h:i+1<l.length),i+1<k→l[i].id<l[i+1].id)∧n=l.length-k∧st=⟨[(0,.sl (aa l) false),(5,.sl (aa l) false),(6,.int .i64 (aa l).length),(7,.int .i64 k)],[],[]⟩)
  l.length _ ⟨0,by omega,fun i h hi=>by omega,fun i h hi=>by omega,by omega,rfl⟩ gX ?_
 rintro n st ⟨k,hk,hv,ha,rfl,rfl⟩;refine gT (fun hb=>?_) fun hb=>?_
 ·have hlt:k<l.length:=by omega
  have hg:=bi hlt;have sp:=iL l[k];have hvn:=fun(hv2:aR l[k]=true) (i:Nat) (h:i<l.length) (hi:i<k+1)=>show aR l[i]=true from by
   by_cases e:i=k
   ·subst e;exact hv2
   ·exact hv i h (by omega)
  cases hvk:aR l[k] with
  |false =>
   have hT:bO l=false:=by
    cases h:bO l with
    |false=>rfl
    |true=>have:=((oS l).1 h).1 k hlt;rw[hvk] at this;cases this
   rw[hvk] at sp;generalize l[k]=t at *;refine g ?_;refine gGr ?_;exact ret0 rfl (congrArg V.bool hT.symm) rfl
  |true =>
   rw[hvk] at sp;have hvm:=hvn hvk;clear hvn;by_cases hk0:k=0
   ·subst hk0;generalize l[0]=t at *;refine g ?_;exact gZ ⟨0+1,by omega,hvm,fun i h hi=>by omega,rfl,rfl⟩
   ·obtain⟨q,rfl⟩:∃q,k=q+1:=⟨k-1,by omega⟩
    have hlq:q<l.length:=by omega
    have hgq:=bi hlq;have hge:(aa l)[(((q+1:Nat):Int)-1).toNat]?=some l[q].row:=by
     rw[show(((q+1:Nat):Int)-1).toNat=q by omega];exact hgq
    have han:=fun(h2:l[q].id<l[q+1].id) (i:Nat) (h:i+1<l.length) (hi:i+1<q+1+1)=>show l[i].id<l[i+1].id from by
     by_cases e:i=q
     ·subst e;exact h2
     ·exact ha i h (by omega)
    have hF:¬l[q].id<l[q+1].id→bO l=false:=fun h2=>by
     cases h:bO l with
     |false=>rfl
     |true=>exact absurd (((oS l).1 h).2.1 q hlt) h2
    generalize l[q+1]=t at *;generalize l[q]=u at *;refine gT (fun hb=>?_) fun hb=>?_
    ·have hT:=hF (by omega);refine gGr ?_;exact ret0 rfl (congrArg V.bool hT.symm) rfl
    ·refine gGo ?_;exact gZ ⟨q+1+1,by omega,hvm,han (by omega),rfl,rfl⟩
 ·have hke:k=l.length:=by omega
  subst hke;have hT:bO l=decide (l.length≤1024):=by
   rw[Bool.eq_iff_iff,oS,decide_eq_true_eq];exact⟨fun h=>h.2.2,fun h=>⟨fun i h=>hv i h h,fun i h=>ha i h h,h⟩⟩
  rw[hT];refine gGo ?_;intros;refine gg ?_;(conv=>whnf);refine gGr ?_;exact ret0 rfl (congrArg V.bool (decide_eq_decide.2 (by omega))) rfl
def aA(l:List (List Int)):List (List V):=l.map eV
theorem eK(l:List (List Int)):(aA l).length=l.length:=by simp[aA]
theorem kc(a:List (List Int))(t:List Int):aA (a++[t])=aA a++[eV t]:=by simp[aA]
def pF(a:Table)(i:Nat)(b:Table)(j:Nat):List (List Int):=if 0<(fQ a i b j).1.getD 4 0 then [(fQ a i b j).1] else []
def l7(a:Table)(i:Nat)(b:Table)(n:Nat):List (List Int):=(List.range n).flatMap (pF a i b)
def jp(a:Table)(i:Nat)(bs:List Table):List (List Int):=bs.flatMap fun b=>l7 a i b b.cols.length
def kx(l:List Table)(k n:Nat):List (List Int):=(List.range n).flatMap fun i=>jp (l.getD k Table.zero) i (l.drop (k+1))
def pG(l:List Table)(n:Nat):List (List Int):=(List.range n).flatMap fun k=>kx l k (l.getD k Table.zero).cols.length
def k6(l:List Table):List (List Int):=pG l l.length
theorem fw{α:Type}(f:Nat→List α)(n:Nat):(List.range (n+1)).flatMap f=(List.range n).flatMap f++f n:=by simp[List.range_succ]
theorem gh{α β:Type}(f:α→List β)(B:Nat):∀(l:List α),(∀x∈l,(f x).length≤B)→(l.flatMap f).length≤l.length*B
 | [],_=>by simp
 |x::l,h=>by
  have h1:=h x (by simp);have h2:=gh f B l fun y hy=>h y (by simp[hy]);rw[List.flatMap_cons,List.length_append,List.length_cons,Nat.add_mul];omega
theorem BS(a:Table)(i:Nat)(b:Table)(j:Nat):(pF a i b j).length≤1:=by unfold pF;split<;>simp
theorem oT(a:Table)(i:Nat)(b:Table)(n:Nat):(l7 a i b n).length≤n:=by
 have:=gh (pF a i b) 1 (List.range n) (fun j _=>BS a i b j);unfold l7;simpa using this
theorem uu(a:Table)(i:Nat){bs:List Table}(h:∀b∈bs,b.cols.length≤64):(jp a i bs).length≤bs.length*64:=
 gh _ 64 bs fun b hb=>Nat.le_trans (oT a i b _) (h b hb)
theorem uv{l:List Table}(h:∀b∈l,b.cols.length≤64)(hl:l.length≤100)(k n:Nat):(kx l k n).length≤n*6400:=by
 have:=gh (fun i=>jp (l.getD k Table.zero) i (l.drop (k+1))) 6400 (List.range n) (fun i _=>by
  have:=uu (l.getD k Table.zero) i (bs:=l.drop (k+1)) (fun b hb=>h b (List.mem_of_mem_drop hb))
  rw[List.length_drop] at this
  omega)
 rwa [List.length_range] at this
theorem BT{l:List Table}(h:∀b∈l,b.cols.length≤64)(hl:l.length≤100){n:Nat}(hn:n≤l.length):(pG l n).length≤n*409600:=by
 have:=gh (fun k=>kx l k (l.getD k Table.zero).cols.length) 409600 (List.range n) (fun k hk=>by
  have hk:=List.mem_range.1 hk
  have h1:=uv h hl k (l.getD k Table.zero).cols.length
  have h2:(l.getD k Table.zero).cols.length≤64:=by
   rw[List.getD_eq_getElem?_getD,List.getElem?_eq_getElem (show k<l.length by omega)]
   exact h _ (List.getElem_mem _)
  omega)
 rwa [List.length_range] at this
theorem zH(a:Table)(i:Nat)(bs:List Table)(b:Table):jp a i (bs++[b])=jp a i bs++l7 a i b b.cols.length:=by simp[jp]
theorem zI(l:List Table)(k i:Nat):kx l k (i+1)=kx l k i++jp (l.getD k Table.zero) i (l.drop (k+1)):=fw _ _
theorem zJ(l:List Table)(k:Nat):pG l (k+1)=pG l k++kx l k (l.getD k Table.zero).cols.length:=fw _ _
theorem BU{a b:Table}(ha:aR a=true)(hb:aR b=true){i j:Nat}(hi:i<a.cols.length)(hj:j<b.cols.length) :
  ∃(x y:Nat) (r6 r7 r8 r9 r10:Int),fQ a i b j=([a.id,(i:Int),b.id,(j:Int),(x:Int),(y:Int),r6,r7,r8,r9,r10],0)∧x≤4096∧y≤4096:=by
 have he:fQ a i b j=(oR a i b j,0):=by
  unfold fQ;rw[if_neg (by simp[ha,hb]),if_neg (fun h=>h ⟨by omega,by omega,by omega,by omega⟩)];rfl
 have hva:=cq ha;have hvb:=cq hb;have lA:=hva.2 _ (List.getElem_mem hi);have lB:=hvb.2 _ (List.getElem_mem hj);have mA:=lD a.cols[i].cells;have mB:=lD b.cols[j].cells;have hbd:=ut (cntC a.cols[i].cells) (cntC b.cols[j].cells) (ab a) (ab b) (fun p hp=>by have:=mA.1 p hp;omega) (fun p hp=>by have:=mB.1 p hp;omega) (List.range (cntC a.cols[i].cells).length);rw[List.length_range] at hbd;obtain⟨c1,c2,_,_,_,_,_⟩:=hbd;obtain⟨x,hx⟩:=Int.eq_ofNat_of_zero_le c1.1;obtain⟨y,hy⟩:=Int.eq_ofNat_of_zero_le c2.1;rw[he];refine⟨x,y,(cntC b.cols[j].cells).length-(ahM (cntC a.cols[i].cells) (cntC b.cols[j].cells) (ab a) (ab b)).common,(ahM (cntC a.cols[i].cells) (cntC b.cols[j].cells) (ab a) (ab b)).mostA,(ahM (cntC a.cols[i].cells) (cntC b.cols[j].cells) (ab a) (ab b)).mostB,(ahM (cntC a.cols[i].cells) (cntC b.cols[j].cells) (ab a) (ab b)).lostA,(ahM (cntC a.cols[i].cells) (cntC b.cols[j].cells) (ab a) (ab b)).lostB,?_,by omega,by omega⟩;rw[←hx,←hy];simp[oR,hi,hj];exact⟨rfl,rfl⟩
def DL(r:List Int):List Int:=[r.getD 2 0,r.getD 3 0,r.getD 0 0,r.getD 1 0,r.getD 4 0,r.getD 6 0,r.getD 5 0,r.getD 8 0,r.getD 7 0,r.getD 10 0,r.getD 9 0]
def l8(t:Int)(r:List Int):List (List Int):=if r.getD 0 0=t then [r] else if r.getD 2 0=t then [DL r] else []
def jq(E:List (List Int))(t:Int):List (List Int):=E.flatMap (l8 t)
def ky(r:List Int):Prop:=r.length=11
theorem DM{r:List Int}(h:ky r):∃r0 r1 r2 r3 r4 r5 r6 r7 r8 r9 r10,r=[r0,r1,r2,r3,r4,r5,r6,r7,r8,r9,r10]:=by
 match r,h with
 | [r0,r1,r2,r3,r4,r5,r6,r7,r8,r9,r10],_=>exact⟨_,_,_,_,_,_,_,_,_,_,_,rfl⟩
theorem EW(a:Table)(i:Int)(b:Table)(j:Int):ky (fQ a i b j).1:=by
 unfold fQ;split
 ·rfl
 ·split
  ·rfl
  ·rfl
theorem DN(l:List Table):∀r∈k6 l,ky r:=by
 intro r hr;unfold k6 pG kx jp l7 at hr;simp only[List.mem_flatMap] at hr;obtain⟨k,_,i,_,b,_,j,_,h⟩:=hr;unfold pF at h;split at h
 ·rw[List.mem_singleton.1 h];exact EW _ _ _ _
 ·cases h
theorem EX{E:List (List Int)}(h:∀r∈E,ky r)(t:Int):∀r∈jq E t,ky r:=by
 intro r hr;unfold jq at hr;rw[List.mem_flatMap] at hr;obtain⟨q,hq,h1⟩:=hr;unfold l8 at h1;split at h1
 ·rw[List.mem_singleton.1 h1];exact h q hq
 ·split at h1
  ·rw[List.mem_singleton.1 h1];rfl
  ·cases h1
theorem BV(t:Int)(r:List Int):(l8 t r).length≤1:=by
 unfold l8;split;simp;split<;>simp
theorem rK(E:List (List Int))(t:Int):(jq E t).length≤E.length:=by
 have:=gh (l8 t) 1 E fun r _=>BV t r;unfold jq;omega
theorem k7{l:List (List Int)}{i:Nat}(h:i<l.length):(aA l)[i]?=some (eV l[i]):=by simp[aA,h]
theorem BW(E:List (List Int))(t:Int)(h:∀r∈E,ky r)(hE:E.length≤100000000):Spec Tryz.prog 80 [.sl (aA E) false,.int .i64 t] [] (.sl (aA (jq E t)) false) []:=by
 have hel:=eK E;refine gEn env Tryz.func80 fun Γ hN hK hML=>?_;refine gGo ?_;intros;refine W.ownNil 5 90 11 rfl rfl ?_;refine W.loopG (fun n st=>∃(k:Nat) (out:List (List Int)),k≤E.length∧out=jq (E.take k) t∧n=E.length-k∧st=⟨[(1,.int .i64 t),(5,.osl 90 0 0 (aA out).length (aA out).length),(8,.sl (aA E) false),(9,.int .i64 (aA E).length),(10,.int .i64 k)],[(90,[.rows 11 (aA out) (some [])])],[90]⟩)
  E.length _ ⟨0,[],by omega,rfl,by omega,rfl⟩ gX ?_
 rintro n st ⟨k,out,hk,hout,rfl,rfl⟩;have hol:=eK out;refine gT (fun hb=>?_) fun hb=>?_
 ·have hkl:k<E.length:=by omega
  have hg:=k7 hkl;have h11:=h _ (List.getElem_mem hkl);have hb1:out.length≤k:=by
   have:=rK (E.take k) t;rw[List.length_take] at this;rw[hout];omega
  have hnx:jq (E.take (k+1)) t=jq (E.take k) t++l8 t E[k]:=by
   unfold jq;rw[List.take_succ_eq_append_getElem hkl,List.flatMap_append,List.flatMap_cons,List.flatMap_nil,List.append_nil]
  generalize E[k]=r at *;obtain⟨r0,r1,r2,r3,r4,r5,r6,r7,r8,r9,r10,rfl⟩:=DM h11;have hC:l8 t [r0,r1,r2,r3,r4,r5,r6,r7,r8,r9,r10]=if r0=t then [[r0,r1,r2,r3,r4,r5,r6,r7,r8,r9,r10]] else if r2=t then [[r2,r3,r0,r1,r4,r6,r5,r8,r7,r10,r9]] else []:=rfl
  refine gT (fun hb=>?_) fun hb=>?_
  ·rw[if_pos hb] at hC;refine gGo ?_;refine⟨⟨ao rfl au,rfl⟩,bc (n:=(aA out).length+1) (b:=88) (by omega) (by omega),.inl ⟨rfl,rfl,?_⟩⟩;(conv=>whnf);refine gGo ?_;refine⟨_,_,?_,⟨k+1,out++[[r0,r1,r2,r3,r4,r5,r6,r7,r8,r9,r10]],by omega,(by rw[hout,hnx,hC]),rfl,rfl⟩,[(90,90)],[],[],?_⟩
   ·omega
   ·rw[kc,List.length_append];exact LeG.mq (.ci 90 .nil)
  ·rw[if_neg hb] at hC;refine gT (fun hb=>?_) fun hb=>?_
   ·rw[if_pos hb] at hC;have spT:=xw r0 r1 r2 r3 r4 r5 r6 r7 r8 r9 r10;refine g ?_;refine⟨⟨ao rfl au,rfl⟩,bc (n:=(aA out).length+1) (b:=88) (by omega) (by omega),.inl ⟨rfl,rfl,?_⟩⟩;(conv=>whnf);refine gGo ?_;refine⟨_,_,?_,⟨k+1,out++[[r2,r3,r0,r1,r4,r6,r5,r8,r7,r10,r9]],by omega,(by rw[hout,hnx,hC]),rfl,rfl⟩,[(90,90)],[],[],?_⟩
    ·omega
    ·rw[kc,List.length_append];exact LeG.mq (.ci 90 .nil)
   ·rw[if_neg hb] at hC;refine gGo ?_;exact gZ ⟨k+1,out,by omega,(by rw[hout,hnx,hC,List.append_nil]),rfl,rfl⟩
 ·have hke:k=E.length:=by omega
  subst hke;rw[List.take_length] at hout;rw[←hout];refine gGo ?_;refine W.leG (mp:=[]) (bo:=[90]) (st':=⟨[(4,.sl (aA out) false)],[],[]⟩)
   (LeG.mk' rfl rfl rfl ⟨⟨_,Lent.whole rfl rfl rfl rfl (.inl rfl),rfl⟩,trivial⟩ .nil rfl rfl (by rw[hK];rfl)) ?_
  (refine gM ?_;conv=>whnf);exact ret0 rfl rfl rfl
def dG(r:List Int):Stp:=⟨r.getD 0 0,r.getD 1 0,r.getD 2 0,r.getD 3 0⟩
theorem gv(l:List Table)(t c:Int):Spec Tryz.prog 53 [.sl (aa l) false,.agg [.int .i64 t,.int .i64 c]] [] (.tup [.agg ((getC l t c).getD Column.zero).row,.bool (getC l t c).isSome]) []:=by
 have sp:=jY l t;refine gEn env Tryz.func53 fun Γ hN hK hML=>?_;refine gGo ?_;cases hf:bL l t with
 |none =>
  rw[hf] at sp;refine g ?_;have hg:getC l t c=none:=by unfold getC;rw[hf]
  rw[hg];refine gGo ?_;(refine gM ?_;conv=>whnf);exact retH rfl (.norm _) rfl rfl rfl trivial
 |some tb =>
  rw[hf] at sp;simp only[Option.getD_some,Option.isSome_some] at sp;refine g ?_;have hcl:=aB tb.cols;by_cases hc:0≤c∧c<tb.cols.length
  ·obtain⟨k,rfl⟩:∃k:Nat,c=k:=⟨c.toNat,by omega⟩
   have hk:k<tb.cols.length:=by omega
   have hg:getC l t k=some tb.cols[k]:=by
    unfold getC;rw[hf];simp only;rw[if_pos hc,Int.toNat_natCast,List.getElem?_eq_getElem hk]
   have hx:=aW hk;rw[hg];generalize tb.cols[k]=col at *;(refine g ?_;intros);(refine gM ?_;conv=>whnf);exact retH rfl (.norm _) rfl rfl rfl trivial
  ·have hg:getC l t c=none:=by
    unfold getC;rw[hf];simp only;rw[if_neg hc]
   rw[hg];by_cases h0:c<0
   ·refine gGo ?_;(refine gM ?_;conv=>whnf);exact retH rfl (.norm _) rfl rfl rfl trivial
   ·refine gGo ?_;intros;(refine gM ?_;conv=>whnf);exact retH rfl (.norm _) rfl rfl rfl trivial
def cS(p:Pth)(n:Nat)(t:Int):Int:=match ixI t (befT p n) with|some i=>(i:Int)|none=>-1
theorem vM{t:Int}:∀ {a b:List Int},ixI t (a++b)=match ixI t a with|some j=>some j|none=>(ixI t b).map (· + a.length)
 | [],b=>by simp[ixI]
 |u::a,b=>by
  by_cases h:t=u
  ·simp[ixI,h]
  ·simp only[List.cons_append,ixI,h,if_false,vM (a:=a)];cases ixI t a with
   |some j=>rfl
   |none =>
    simp only[Option.map_none];cases ixI t b with
    |none=>rfl
    |some j=>simp only[Option.map_some,List.length_cons];congr 1
theorem eE(p:Pth)(n:Nat)(t:Int)(hn:n≤p.steps.length)(hl:p.steps.length≤100):Spec Tryz.prog 81 [.agg p.row,.int .i64 n,.int .i64 t] [] (.int .i64 (cS p n t)) []:=by
 have hsl:=aC p.steps;refine gEn env Tryz.func81 fun Γ hN hK hML=>?_;refine gT (fun hb=>?_) fun hb=>?_
 ·have hz:cS p n t=0:=by
   unfold cS befT;simp only[ixI,hb,if_true];rfl
  rw[hz];exact gR
 ·have hz0:ixI t (befT p 0)=none:=by
   show(if t=p.start then some 0 else _)=none;rw[if_neg (fun e=>hb e.symm)];rfl
  obtain⟨S,hS⟩:∃S,S=p.steps.take n:=⟨_,rfl⟩
  have hSl:S.length=n:=by rw[hS,List.length_take];omega
  have hSr:=aC S;have hdr:((ae p.steps).take (n:Int).toNat).drop (0:Int).toNat=ae S:=by
   rw[Int.toNat_natCast,hS];unfold ae;rw[List.map_take];rfl
  refine gGo ?_;refine⟨?_,?_⟩
  ·unfold bA;intro r hr;obtain⟨s,_,rfl⟩:=List.mem_map.1 hr;rfl
  (conv=>whnf);rw[hdr];refine gGo ?_;intros;refine W.loopG (fun m st=>∃k:Nat,k≤n∧ixI t (befT p k)=none∧m=n-k∧st=⟨[(2,.int .i64 t),(16,.sl (ae S) false),(17,.int .i64 (ae S).length),(18,.int .i64 k)],[],[]⟩)
   n _ ⟨0,by omega,hz0,by omega,rfl⟩ gX ?_
  rintro m st ⟨k,hk,hz,rfl,rfl⟩;refine gT (fun hb=>?_) fun hb=>?_
  ·have hkn:k<n:=by omega
   have hkS:k<S.length:=by omega
   have hg:=bf hkS;have hSk:S[k]=p.steps[k]:=by subst hS;simp
   have hsn:=oH p (show k<p.steps.length by omega);have hix:ixI t (befT p (k+1))=if t=p.steps[k].tt then some (k+1) else none:=by
    rw[hsn,vM,hz];simp only[ixI];rw[ni p (by omega)];split
    ·simp
    ·rfl
   rw[hSk] at hg;generalize p.steps[k]=s at *;refine gT (fun hb=>?_) fun hb=>?_
   ·rw[if_pos hb.symm] at hix;have hz2:cS p n t=((k+1:Nat):Int):=by
     unfold cS;have:∃L,befT p n=befT p (k+1)++L:=by
      unfold befT;refine⟨((p.steps.take n).drop (k+1)).map Stp.tt,?_⟩;rw[List.cons_append,←List.map_append];congr 2;rw[show p.steps.take (k+1)=(p.steps.take n).take (k+1) by rw[List.take_take,Nat.min_eq_left (by omega)],List.take_append_drop]
     obtain⟨L,hL⟩:=this;rw[hL,vM,hix]
    rw[hz2];exact gR
   ·rw[if_neg (fun e=>hb e.symm)] at hix;refine gGo ?_;exact gZ ⟨k+1,by omega,hix,rfl,rfl⟩
  ·have hke:k=n:=by omega
   subst hke;have hz2:cS p k t=-1:=by unfold cS;rw[hz]
   rw[hz2];exact gR
theorem mJ(p:Pth)(n:Nat)(t:Int):0≤cS p n t↔t∈befT p n:=by
 unfold cS;cases h:ixI t (befT p n) with
 |none=>simp[cM.1 h]
 |some i =>
  have:=List.mem_of_getElem? (oK h);simp[this]
theorem ke(l:List Table)(p:Pth):Spec Tryz.prog 102 [.sl (aa l) false,.agg p.row] [] (.int .i64 (aD l p)) []:=by
 have sp1:=fZ l;have hsl:=aC p.steps;refine gEn env Tryz.func102 fun Γ hN hK hML=>?_;cases hlb:bO l with
 |false =>
  have hE:aD l p=1:=by unfold aD;rw[if_neg (by rw[hlb];decide)]
  rw[hlb] at sp1;rw[hE];exact gR
 |true =>
  rw[hlb] at sp1;by_cases h4:p.steps.length≤4
  ·have hE:aD l p=if iO l p=true then 0 else 21:=by unfold aD;rw[if_pos hlb,if_pos h4]
   have sp2:=jY l p.start;cases hf:bL l p.start with
   |none =>
    have hP:iO l p=false:=by unfold iO;rw[hf];rfl
    rw[hf] at sp2;rw[hE,hP,if_neg (by decide)];exact gR
   |some tb =>
    rw[hf] at sp2;simp only[Option.getD_some,Option.isSome_some] at sp2;(refine g ?_;intros);refine W.loopG (fun n st=>∃k:Nat,k≤p.steps.length∧(∀i,i<k→io l p i=true)∧n=p.steps.length-k∧st=⟨[(0,.sl (aa l) false),(3,.bp 3 0),(32,.sl (ae p.steps) false),(33,.int .i64 (ae p.steps).length),(34,.int .i64 k)],[(3,[.rows 2 [p.row] none])],[3]⟩)
     p.steps.length _ ⟨0,by omega,fun i hi=>by omega,by omega,rfl⟩ gX ?_
    rintro n st ⟨k,hk,hok,rfl,rfl⟩;refine gT (fun hb=>?_) fun hb=>?_
    ·have hkl:k<p.steps.length:=by omega
     have hg:=bf hkl;have hso:io l p k=((getC l p.steps[k].ft p.steps[k].fc).isSome&&((getC l p.steps[k].tt p.steps[k].tc).isSome&&(decide (p.steps[k].ft∈befT p k)&&!decide (p.steps[k].tt∈befT p k)))):=by
      unfold io;rw[List.getElem?_eq_getElem hkl]
     have hbad:io l p k=false→aD l p=21:=fun h=>by rw[hE,w5 hkl h,if_neg (by decide)]
     have hgood:io l p k=true→∀i,i<k+1→io l p i=true:=fun h i hi=>by
      by_cases e:i=k
      ·subst e;exact h
      ·exact hok i (by omega)
     have pf:=eE p k p.steps[k].ft (by omega) (by omega);have pt:=eE p k p.steps[k].tt (by omega) (by omega);have mf:=mJ p k p.steps[k].ft;have mt:=mJ p k p.steps[k].tt;have gf:=gv l p.steps[k].ft p.steps[k].fc;have gt:=gv l p.steps[k].tt p.steps[k].tc;generalize p.steps[k]=s at *;generalize cS p k s.ft=zf at *;generalize cS p k s.tt=zt at *;generalize (getC l s.ft s.fc).getD Column.zero=c1 at *;generalize (getC l s.tt s.tc).getD Column.zero=c2 at *;cases hbf:(getC l s.ft s.fc).isSome with
     |false =>
      rw[hbf] at gf hso;rw[hbad hso];refine gGo ?_;refine al (by simpa using hg) ?_;(conv=>whnf);refine gGo ?_;(refine gPC (gf) ?_;conv=>whnf);refine gGo ?_;(refine gPC (gt) ?_;conv=>whnf);refine gGo ?_;refine gGr ?_;exact ret0 rfl rfl rfl
     |true =>
      rw[hbf] at gf hso;cases hbt:(getC l s.tt s.tc).isSome with
      |false =>
       rw[hbt] at gt hso;rw[hbad hso];refine gGo ?_;refine al (by simpa using hg) ?_;(conv=>whnf);refine gGo ?_;(refine gPC (gf) ?_;conv=>whnf);refine gGo ?_;(refine gPC (gt) ?_;conv=>whnf);refine gGo ?_;exact gR
      |true =>
       rw[hbt] at gt hso;rw[Bool.true_and,Bool.true_and] at hso;refine gGo ?_;refine al (by simpa using hg) ?_;(conv=>whnf);refine gGo ?_;(refine gPC (gf) ?_;conv=>whnf);refine gGo ?_;(refine gPC (gt) ?_;conv=>whnf);refine gGo ?_;(refine gPC (pf) ?_;conv=>whnf);refine gGo ?_;refine da (fun hb=>?_) (fun hb=>?_)<;>conv=>whnf
       ·have hT:=hbad (by rw[hso,decide_eq_false (fun h=>by have:=mf.2 h;omega)];rfl);rw[hT];refine gGr ?_;exact ret0 rfl rfl rfl
       ·rw[decide_eq_true (mf.1 (by omega)),Bool.true_and] at hso;refine gGo ?_;(refine gPC (pt) ?_;conv=>whnf);refine gGo ?_;refine da (fun hb=>?_) (fun hb=>?_)<;>conv=>whnf
        ·have hT:=hbad (by rw[hso,decide_eq_true (mt.1 (by omega))];rfl);rw[hT];refine gGr ?_;exact ret0 rfl rfl rfl
        ·have hT:=hgood (by rw[hso,decide_eq_false (fun h=>by have:=mt.2 h;omega)];rfl);refine gGo ?_;exact gZ ⟨k+1,by omega,hT,rfl,rfl⟩
    ·have hke:k=p.steps.length:=by omega
     subst hke;have hP:iO l p=true:=mD (by rw[hf];rfl) hok;rw[hE,hP,if_pos rfl];exact gR
  ·have hE:aD l p=3:=by unfold aD;rw[if_pos hlb,if_neg h4]
   rw[hE];exact gR
def aG(l:List Table)(p:Pth):List Table:=aT l p.start::p.steps.map fun s=>aT l s.tt
theorem cB(l:List Table)(p:Pth):(aG l p).length=p.steps.length+1:=by simp[aG]
theorem cJ(l:List Table)(p:Pth){i:Nat}(h:i≤p.steps.length):(aG l p)[i]?=some (tabN l p i):=by
 cases i with
 |zero=>rfl
 |succ q =>
  have hq:q<p.steps.length:=by omega
  unfold aG tabN aH br;simp[hq]
theorem eo(l:List Table)(p:Pth)(hl:p.steps.length≤100):Spec Tryz.prog 46 [.sl (aa l) false,.agg p.row] [] (.sl (aa (aG l p)) false) []:=by
 have sp1:=jY l p.start;have hst:(bL l p.start).getD Table.zero=aT l p.start:=rfl;rw[hst] at sp1;generalize (bL l p.start).isSome=b1 at *;have hsl:=aC p.steps;have h0:aa [aT l p.start]=[(aT l p.start).row]:=rfl;refine gEn env Tryz.func46 fun Γ hN hK hML=>?_;refine gGo ?_;(refine gPC (sp1) ?_;conv=>whnf);refine gGl ?_;refine Or.inl ?_;(conv=>whnf);refine gGo ?_;intros;refine W.leG (mp:=[(3,3),(20,20)]) (bo:=[]) (st':=⟨[(0,.sl (aa l) false),(7,.osl 20 0 0 1 1),(22,.sl (ae p.steps) false),(23,.int .i64 (ae p.steps).length),(24,.int .i64 0)],[(3,[.rows 2 [p.row] none]),(20,[.rows 3 (aa [aT l p.start]) (some [])])],[3,20]⟩)
  (LeG.mq (.ci 3 (.cons 20 (b1:=.rows 3 (aa [aT l p.start]) (some [])) rfl rfl (.pure _ (aa [aT l p.start]) _ ?_) rfl .nil))) ?_
 ·intro r hr v hv;rw[h0] at hr;rw[List.mem_singleton.1 hr] at hv;simp only[Table.row,List.mem_cons,List.not_mem_nil,or_false] at hv;rcases hv with rfl|rfl|rfl<;>rfl
 refine W.loopG (fun n st=>∃(k:Nat) (out:List Table),k≤p.steps.length∧out=aT l p.start::(p.steps.take k).map (fun s=>aT l s.tt)∧n=p.steps.length-k∧st=⟨[(0,.sl (aa l) false),(7,.osl 20 0 0 (aa out).length (aa out).length),(22,.sl (ae p.steps) false),(23,.int .i64 (ae p.steps).length),(24,.int .i64 k)],[(3,[.rows 2 [p.row] none]),(20,[.rows 3 (aa out) (some [])])],[3,20]⟩)
  p.steps.length _ ⟨0,[aT l p.start],by omega,rfl,by omega,rfl⟩ gX ?_
 rintro n st ⟨k,out,hk,hout,rfl,rfl⟩;have hol:=aP out;have hol2:out.length=k+1:=by rw[hout,List.length_cons,List.length_map,List.length_take];omega
 refine gT (fun hb=>?_) fun hb=>?_
 ·have hkl:k<p.steps.length:=by omega
  have hg:=bf hkl;have sp2:=jY l p.steps[k].tt;have hst2:(bL l p.steps[k].tt).getD Table.zero=aT l p.steps[k].tt:=rfl;rw[hst2] at sp2;generalize (bL l p.steps[k].tt).isSome=b2 at *;have hnx:aT l p.start::(p.steps.take (k+1)).map (fun s=>aT l s.tt)=(aT l p.start::(p.steps.take k).map (fun s=>aT l s.tt))++[aT l p.steps[k].tt]:=by
   rw[List.take_succ_eq_append_getElem hkl,List.map_append];rfl
  generalize p.steps[k]=s at *;refine g ?_;refine⟨⟨ao rfl au,rfl⟩,bc (n:=(aa out).length+1) (b:=48) (by omega) (by omega),.inl ⟨rfl,rfl,?_⟩⟩;(conv=>whnf);refine gGo ?_;refine⟨_,_,?_,⟨k+1,out++[aT l s.tt],by omega,(by rw[hnx,hout]),rfl,rfl⟩,[(3,3),(20,20)],[],[],?_⟩
  ·omega
  ·have e:=j8 out (aT l s.tt);rw[e,List.length_append];exact LeG.mq (.ci 3 (.ci 20 .nil))
 ·have hke:k=p.steps.length:=by omega
  subst hke;rw[List.take_length] at hout;rw[show aG l p=out from hout.symm];refine gGo ?_;refine W.leG (mp:=[]) (bo:=[20]) (st':=⟨[(4,.sl (aa out) false)],[],[]⟩)
   (LeG.mk' rfl rfl rfl ⟨⟨_,Lent.whole rfl rfl rfl rfl (.inl rfl),rfl⟩,trivial⟩ .nil rfl rfl (by rw[hK];rfl)) ?_
  (refine gM ?_;conv=>whnf);exact ret0 rfl rfl rfl
theorem rL(a b:Cell):Spec Tryz.prog 56 [.agg a.row,.agg b.row] [] (.bool (fitC a b)) []:=by
 obtain⟨an,at_⟩:=a;obtain⟨bn,bt⟩:=b;refine gEn env Tryz.func56 fun Γ hN hK hML=>?_;cases an with
 |true =>
  rw[show fitC ⟨true,at_⟩ ⟨bn,bt⟩=false from rfl];exact gR
 |false =>
  cases bn with
  |true =>
   rw[show fitC ⟨false,at_⟩ ⟨true,bt⟩=false from rfl];exact gR
  |false =>
   rw[show fitC ⟨false,at_⟩ ⟨false,bt⟩=decide (at_=bt) from rfl];refine gGo ?_;refine gg ?_;(conv=>whnf);exact gR
section
variable (l:List Table) (p:Pth)
def extF(g:List Nat→List (List Nat))(hv:List Nat)(y:Nat):List (List Nat):=if cX l p (hv.length-1) (hv.getD (parI p (hv.length-1)) 0) y=true then g (hv++[y]) else []
def extN(g:List Nat→List (List Nat))(hv:List Nat)(n:Nat):List (List Nat):=(List.range n).flatMap (extF l p g hv)
def ext:Nat→List Nat→List (List Nat)
 | 0,hv=>[hv]
 |k+1,hv=>extN l p (ext k) hv (ab (tabN l p hv.length))
def eX(n:Nat):List (List Nat):=(List.range n).flatMap fun r=>ext l p p.steps.length [r]
def a6:List (List Nat):=eX l p (ab (tabN l p 0))
end
def am(L:List (List Nat)):List (List V):=L.map fun r=>[.sl (af r) false]
theorem cH(L:List (List Nat)):(am L).length=L.length:=by simp[am]
theorem k8{L:List (List Nat)}{i:Nat}(h:i<L.length):(am L)[i]?=some [.sl (af L[i]) false]:=by simp[am,h]
theorem ny(a:List (List Nat))(t:List Nat):am (a++[t])=am a++[[.sl (af t) false]]:=by simp[am]
theorem mK(l:List Nat):bA (af l) 1:=by
 unfold bA af;intro r hr;obtain⟨c,_,rfl⟩:=List.mem_map.1 hr;rfl
theorem kf(l:List Nat):lT (af l)=true:=by
 unfold lT af;rw[List.all_eq_true];intro r hr;obtain⟨c,_,rfl⟩:=List.mem_map.1 hr;rfl
def outH(out:List (List Nat)):List (Nat×Blk):=[(0,.rows 1 [[.osl 1 0 0 (am out).length (am out).length]] none),(1,.rows 1 (am out) (some []))]
theorem uw{α:Type}{a b:List α}{n:Nat}(h:n≤a.length):(a++b).take n=a.take n:=List.take_append_of_le_length h
theorem uy(l:List Table)(p:Pth)(g:List Nat→List (List Nat))(hv:List Nat)(n:Nat):extN l p g hv (n+1)=extN l p g hv n++extF l p g hv n:=fw _ _
theorem zK(l:List Table)(p:Pth)(g:List Nat→List (List Nat))(hv:List Nat){y n:Nat}(h:y≤n):∃R,extN l p g hv n=extN l p g hv y++R:=by
 induction n with
 |zero=>obtain rfl:y=0:=(by omega);exact⟨[],by simp⟩
 |succ n ih =>
  by_cases e:y=n+1
  ·subst e;exact⟨[],by simp⟩
  ·obtain⟨R,hR⟩:=ih (by omega);exact⟨R++extF l p g hv n,by rw[uy,hR,List.append_assoc]⟩
theorem pH{l:List Table}{p:Pth}(h:aD l p=0):∀(k:Nat) (hv:List Nat) (out:List (List Nat)),hv≠[]→hv.length+k=p.steps.length+1→(∀i (hi:i<hv.length),hv[i]<ab (tabN l p i))→out.length≤4096 →
  Spec Tryz.prog 150 [.sl (aa (aG l p)) false,.agg p.row,.sl (af hv) false,.bp 0 0] (outH out) (.bool (decide (out.length+(ext l p k hv).length≤4096))) (outH ((out++ext l p k hv).take 4096))
 | 0,hv,out,hne,hlen,hlt,hout=>by
  have hnl:=aQ hv;have hsl:=aC p.steps;have hrl:=cH out;have hnz:=mK hv;have hnp:=kf hv;have h4:=(aI h).2.1;have he:ext l p 0 hv=[hv]:=rfl;rw[he,List.length_singleton];unfold outH;refine gEn env Tryz.func150 fun Γ hN hK hML=>?_;refine gGo ?_;by_cases hfull:out.length=4096
  ·rw[decide_eq_false (by omega),uw (by omega),List.take_of_length_le (by omega)];refine gGo ?_;intros;(refine gM ?_;conv=>whnf);exact retH rfl (.refl _) rfl rfl rfl ⟨rfl,rfl,rfl,rfl,trivial⟩
  ·rw[decide_eq_true (by omega),List.take_of_length_le (by rw[List.length_append,List.length_singleton];omega)];have hsn:=ny out hv;refine gGo ?_;intros;refine⟨bc (n:=(af hv).length) (b:=8) (by omega) (by omega),Or.inr ⟨⟨rfl,rfl,rfl,hnp⟩,?_⟩⟩;(conv=>whnf);refine gGo ?_;refine⟨⟨ao rfl au,rfl⟩,bc (n:=(am out).length+1) (b:=24) (by omega) (by omega),.inl ⟨rfl,rfl,?_⟩⟩;(conv=>whnf);refine gGo ?_;rw[hsn,List.length_append];(refine gM ?_;conv=>whnf);exact retH rfl (.refl _) rfl rfl rfl ⟨rfl,rfl,rfl,rfl,trivial⟩
 |k+1,hv,out,hne,hlen,hlt,hout=>by
  have ih:=pH h k;have hv2:=aI h;have hnl:=aQ hv;have hsl:=aC p.steps;have hnz:=mK hv;have hpos:0<hv.length:=List.length_pos_iff.2 hne;obtain⟨n,hn⟩:∃n,hv.length=n+1:=⟨hv.length-1,by omega⟩
  have hnp:n<p.steps.length:=by omega
  have hsf:=cN hv2.2.2 hnp;have hpar:=bz p (i:=n) (by omega);have hsg:=bf hnp;have hst:br p n=p.steps[n]:=by simp[br,hnp]
  have hfc:=hsf.fc;have htc:=hsf.tc;have hold:=hsf.old;rw[hst] at hfc htc hold;have spP:=eE p n p.steps[n].ft (by omega) (by omega);have hpz:cS p n p.steps[n].ft=(parI p n:Int):=by
   unfold cS parI d8;rw[hst];cases hx:ixI p.steps[n].ft (befT p n) with
   |none=>exact absurd hold (cM.1 hx)
   |some i=>rfl
  rw[hpz] at spP;have htl:=aP (aG l p);have hml:=cB l p;have hg1:(aa (aG l p))[parI p n]?=some (tabN l p (parI p n)).row:=by
   have:=cJ l p (i:=parI p n) (by omega);unfold aa;rw[List.getElem?_map,this];rfl
  have hg2:(aa (aG l p))[n+1]?=some (tabN l p (n+1)).row:=by
   have:=cJ l p (i:=n+1) (by omega);unfold aa;rw[List.getElem?_map,this];rfl
  have ht1:tabN l p (parI p n)=aT l p.steps[n].ft:=by
   have:=qw (l:=l) hnp (show(br p n).ft∈befT p n by rw[hst];exact hold) p.steps.length;rw[hst] at this;exact this
  have ht2:tabN l p (n+1)=aT l p.steps[n].tt:=by
   show aT l (br p n).tt=_;rw[hst]
  have hf1:frN l p (n+1)=p.steps[n].fc.toNat:=by
   show(br p n).fc.toNat=_;rw[hst]
  have hf2:ownN l p (n+1)=p.steps[n].tc.toNat:=by
   show(br p n).tc.toNat=_;rw[hst]
  have hvt1:=db hv2.1 p.steps[n].ft;have hvt2:=db hv2.1 p.steps[n].tt;rw[←ht1] at hvt1;rw[←ht2] at hvt2;rw[←ht1] at hfc;rw[←ht2] at htc;obtain⟨x,hx1⟩:∃x,hv[parI p n]?=some x:=⟨_,List.getElem?_eq_getElem (by omega)⟩
  have hr:x<ab (tabN l p (parI p n)):=by
   obtain⟨hi,hxe⟩:=List.getElem?_eq_some_iff.1 hx1;rw[←hxe];exact hlt _ hi
  have hge:(af hv)[parI p n]?=some [.int .i64 (x:Int)]:=by
   unfold af;rw[List.getElem?_map,hx1];rfl
  have hgd:hv.getD (parI p n) 0=x:=by
   rw[List.getD_eq_getElem?_getD,hx1];rfl
  have hsF:∀y,cX l p n (hv.getD (parI p n) 0) y=fitC (ay (tabN l p (parI p n)) p.steps[n].fc.toNat x) (ay (tabN l p (n+1)) p.steps[n].tc.toNat y):=fun y=>by
   unfold cX;rw[hgd,hf1,hf2]
  have hX:∀y,extF l p (ext l p k) hv y=if fitC (ay (tabN l p (parI p n)) p.steps[n].fc.toNat x) (ay (tabN l p (n+1)) p.steps[n].tc.toNat y)=true then ext l p k (hv++[y]) else []:=fun y=>by
   unfold extF;rw[hn,Nat.add_sub_cancel,hsF]
  have hE:ext l p (k+1) hv=extN l p (ext l p k) hv (ab (tabN l p (n+1))):=by
   show extN l p (ext l p k) hv (ab (tabN l p hv.length))=_;rw[hn]
  rw[hE];have hlt2:∀y,y<ab (tabN l p (n+1))→∀i (hi:i<(hv++[y]).length),(hv++[y])[i]<ab (tabN l p i):=fun y hy i hi=>by
   rw[List.getElem_append];split
   ·exact hlt i _
   ·have:i=n+1:=by rw[List.length_append,List.length_singleton] at hi;omega
    subst this;simpa using hy
  clear hsF hE hlt hgd hold hsf ht1 ht2 hf1 hf2 hpz hst hx1;generalize tabN l p (parI p n)=ta at *;generalize htbe:tabN l p (n+1)=tb at *;generalize p.steps[n]=s at *;obtain⟨c1,hc1⟩:∃c1:Nat,s.fc=c1:=⟨_,(Int.toNat_of_nonneg hfc.1).symm⟩
  obtain⟨c2,hc2⟩:∃c2:Nat,s.tc=c2:=⟨_,(Int.toNat_of_nonneg htc.1).symm⟩
  have hc1l:c1<ta.cols.length:=by omega
  have hc2l:c2<tb.cols.length:=by omega
  rw[hc1,hc2] at hX;simp only[Int.toNat_natCast] at hX;have k1:=aW hc1l;have k2:=aW hc2l;have l1:=hvt1.2 _ (List.getElem_mem hc1l);have l2:=hvt2.2 _ (List.getElem_mem hc2l);have hxl:x<(ta.cols[c1]).cells.length:=by omega
  have k3:=aY hxl;have hce:ay ta c1 x=(ta.cols[c1]).cells[x]:=by
   unfold ay;simp[hc1l,hxl]
  have hcf:∀y (hy:y<(tb.cols[c2]).cells.length),ay tb c2 y=(tb.cols[c2]).cells[y]:=fun y hy=>by
   unfold ay;simp[hc2l,hy]
  simp only[hce] at hX;have hcl2:=aF (tb.cols[c2]).cells;have hgc:=fun y (hy:y<(tb.cols[c2]).cells.length)=>aY hy;generalize (ta.cols[c1]).cells[x]=ca at *;generalize hca1:ta.cols[c1]=colA at *;generalize hca2:tb.cols[c2]=colB at *;have htaC:=aB ta.cols;have htbC:=aB tb.cols;generalize parI p n=pa at *;unfold outH;refine gEn env Tryz.func150 fun Γ hN hK hML=>?_;refine gGo ?_;intros;refine al (r:=s.row) (by rw[show(((af hv).length:Int)-1).toNat=n by omega];exact hsg) ?_;(conv=>whnf);rw[show((af hv).length:Int)-1=(n:Int) by omega];refine g ?_;refine al (r:=colA.row) (by rw[hc1,Int.toNat_natCast];exact k1) ?_;(conv=>whnf);refine gGo ?_;refine al (r:=[.int .i64 (x:Int)]) (by simpa using hge) ?_;(conv=>whnf);refine gGo ?_;refine al (r:=ca.row) (by simpa using k3) ?_;(conv=>whnf);refine gGo ?_;refine al (r:=tb.row) (by rw[show((n:Int)+1).toNat=n+1 by omega];exact hg2) ?_;(conv=>whnf);refine gGo ?_;refine al (r:=colB.row) (by rw[hc2,Int.toNat_natCast];exact k2) ?_;(conv=>whnf);refine gGo ?_;intros;generalize ext l p k=g at *;refine W.leG (mp:=[(0,0),(1,1),(5,5),(12,12)]) (bo:=[]) (st':=⟨[(0,.sl (aa (aG l p)) false),(2,.sl (af hv) false),(3,.bp 0 0),(5,.bp 5 0),(12,.bp 12 0),(76,.sl (aj colB.cells) false),(77,.int .i64 (aj colB.cells).length),(78,.int .i64 (0:Nat))],[(0,[.rows 1 [[.osl 1 0 0 (am out).length (am out).length]] none]),(1,[.rows 1 (am out) (some [])]),(5,[.rows 2 [p.row] none]),(12,[.rows 2 [ca.row] none])],[0,1,5,12]⟩)
   (LeG.mq (.ci 0 (.ci 1 (.ci 5 (.ci 12 .nil))))) ?_
  refine W.loopG (fun m st=>∃(y:Nat) (o:List (List Nat)),y≤colB.cells.length∧o=out++extN l p g hv y∧o.length≤4096∧m=colB.cells.length-y∧st=⟨[(0,.sl (aa (aG l p)) false),(2,.sl (af hv) false),(3,.bp 0 0),(5,.bp 5 0),(12,.bp 12 0),(76,.sl (aj colB.cells) false),(77,.int .i64 (aj colB.cells).length),(78,.int .i64 (y:Nat))],[(0,[.rows 1 [[.osl 1 0 0 (am o).length (am o).length]] none]),(1,[.rows 1 (am o) (some [])]),(5,[.rows 2 [p.row] none]),(12,[.rows 2 [ca.row] none])],[0,1,5,12]⟩)
   colB.cells.length _ ⟨0,out,by omega,by simp[extN],hout,by omega,rfl⟩ gX ?_
  rintro m st ⟨y,o,hy,ho,hol,rfl,rfl⟩;refine gT (fun hb=>?_) fun hb=>?_
  ·have hyl:y<colB.cells.length:=by omega
   have hgy:=hgc y hyl;have hXy:=hX y;have hsu:=uy l p g hv y;obtain⟨R,hR⟩:=zK l p g hv (show y+1≤ab tb by omega);have hl2:=hlt2 y (by omega);rw[hcf y hyl] at hXy;have spF:=rL ca colB.cells[y];generalize colB.cells[y]=cb at *;cases hfit:fitC ca cb with
   |false =>
    rw[hfit] at spF;rw[hfit,if_neg (by decide)] at hXy;refine gGo ?_;refine al (by simpa using hgy) ?_;(conv=>whnf);refine gGo ?_;(refine gPC (spF) ?_;conv=>whnf);refine gGo ?_;exact gZ ⟨y+1,o,by omega,(by rw[ho,hsu,hXy,List.append_nil]),hol,rfl,rfl⟩
   |true =>
    rw[hfit] at spF;rw[hfit,if_pos rfl] at hXy;have spI:=ih (hv++[y]) o (by simp) (by rw[List.length_append,List.length_singleton];omega) hl2 hol;refine gGo ?_;refine al (by simpa using hgy) ?_;(conv=>whnf);refine gGo ?_;(refine gPC (spF) ?_;conv=>whnf);refine gGo ?_;intros;have htd:List.drop (Int.toNat 0) (List.take ((af hv).length:Int).toNat (af hv))=af hv:=by
     rw[Int.toNat_natCast,List.take_length];rfl
    rw[htd];refine⟨⟨ao rfl au,hnz,fun h=>by cases h⟩,bc (n:=(af hv).length+1) (b:=8) (by omega) (by omega),Or.inr ⟨⟨rfl,List.length_append.symm,List.length_append.symm,?_⟩,?_⟩⟩
    ·have:=kf (hv++[y]);rw[j6] at this;exact this
    (conv=>whnf);rw[j6] at spI;by_cases hfl:o.length+(g (hv++[y])).length≤4096
    ·rw[decide_eq_true hfl,List.take_of_length_le (by rw[List.length_append];exact hfl)] at spI;refine gGo ?_;(refine gCA [(0,0),(1,1)] [] [] (spI) ?_;conv=>whnf);refine gGo ?_;exact gZ ⟨y+1,o++g (hv++[y]),by omega,(by rw[ho,hsu,hXy,List.append_assoc]),(by rw[List.length_append];exact hfl),rfl,rfl⟩
    ·have e1:out++extN l p g hv (ab tb)=(o++g (hv++[y]))++R:=by rw[hR,hsu,hXy,ho];simp only[List.append_assoc]
     have e3:out.length+(extN l p g hv (ab tb)).length=(o++g (hv++[y])).length+R.length:=by rw[←List.length_append,e1,List.length_append]
     have e4:(o++g (hv++[y])).length=o.length+(g (hv++[y])).length:=List.length_append;rw[decide_eq_false hfl] at spI;rw[decide_eq_false (by omega),e1,uw (by omega)];refine gGo ?_;(refine gCA [(0,0),(1,1)] [] [] (spI) ?_;conv=>whnf);refine gGo ?_;(refine gM ?_;conv=>whnf);exact retH rfl (.refl _) rfl rfl rfl ⟨rfl,rfl,rfl,rfl,trivial⟩
  ·have hye:y=colB.cells.length:=by omega
   have e1:extN l p g hv y=extN l p g hv (ab tb):=by rw[hye,l2]
   rw[e1] at ho;have e2:out.length+(extN l p g hv (ab tb)).length=o.length:=by rw[ho,List.length_append]
   rw[e2,decide_eq_true hol,←ho,List.take_of_length_le hol];refine gGo ?_;(refine gM ?_;conv=>whnf);exact retH rfl (.refl _) rfl rfl rfl ⟨rfl,rfl,rfl,rfl,trivial⟩
end Go.Sx.Sp
namespace Go.Sx.Sp
open Go Go.Sx Go.Proofs
attribute [local irreducible] aO famL
def kz(l:List Table)(p:Pth):List (List Nat)×Int:=if aD l p=0 then(if(a6 l p).length≤4096 then(a6 l p,0) else([],3)) else([],aD l p)
theorem rM(l:List Table)(p:Pth)(n:Nat):eX l p (n+1)=eX l p n++ext l p p.steps.length [n]:=fw _ _
theorem xy(l:List Table)(p:Pth){y n:Nat}(h:y≤n):∃R,eX l p n=eX l p y++R:=by
 induction n with
 |zero=>obtain rfl:y=0:=(by omega);exact⟨[],by simp⟩
 |succ n ih =>
  by_cases e:y=n+1
  ·subst e;exact⟨[],by simp⟩
  ·obtain⟨R,hR⟩:=ih (by omega);exact⟨R++ext l p p.steps.length [n],by rw[rM,hR,List.append_assoc]⟩
theorem xz{l:List Table}{p:Pth}(h:aD l p=0):Spec Tryz.prog 103 [.sl (aa l) false,.agg p.row] [] (.tup [.sl (am (if(a6 l p).length≤4096 then a6 l p else [])) false,.bool (decide ((a6 l p).length≤4096))]) []:=by
 have h4:=(aI h).2.1;have spT:=eo l p (by omega);have spR:=dP (tabN l p 0);have hg0:(aa (aG l p))[0]?=some (tabN l p 0).row:=by
  have:=cJ l p (i:=0) (by omega);unfold aa;rw[List.getElem?_map,this];rfl
 have htl:=aP (aG l p);have hml:=cB l p;have spE:=pH h p.steps.length;have hrow:ab (tabN l p 0)≤4096:=(db (aI h).1 _).1;have hRL:a6 l p=eX l p (ab (tabN l p 0)):=rfl;refine gEn env Tryz.func103 fun Γ hN hK hML=>?_;refine g ?_;refine W.ownCell 7 0 0 90 1 rfl rfl rfl rfl rfl ?_;refine W.leG (mp:=[(3,3),(7,7),(90,90)]) (bo:=[]) (st':=⟨[(3,.bp 3 0),(6,.sl (aa (aG l p)) false),(7,.bp 7 0),(15,.int .i64 (ab (tabN l p 0))),(16,.int .i64 (0:Nat))],[(3,[.rows 2 [p.row] none]),(7,[.rows 1 [[.osl 90 0 0 (am []).length (am []).length]] none]),(90,[.rows 1 (am []) (some [])])],[3,7,90]⟩)
  (LeG.mq (.ci 3 (.ci 7 (.ci 90 .nil)))) ?_
 refine W.loopG (fun m st=>∃(y:Nat) (o:List (List Nat)),y≤ab (tabN l p 0)∧o=eX l p y∧o.length≤4096∧m=ab (tabN l p 0)-y∧st=⟨[(3,.bp 3 0),(6,.sl (aa (aG l p)) false),(7,.bp 7 0),(15,.int .i64 (ab (tabN l p 0))),(16,.int .i64 (y:Nat))],[(3,[.rows 2 [p.row] none]),(7,[.rows 1 [[.osl 90 0 0 (am o).length (am o).length]] none]),(90,[.rows 1 (am o) (some [])])],[3,7,90]⟩)
  (ab (tabN l p 0)) _ ⟨0,[],by omega,rfl,by simp,by omega,rfl⟩ gX ?_
 rintro m st ⟨y,o,hy,ho,hol,rfl,rfl⟩;refine gT (fun hb=>?_) fun hb=>?_
 ·have hyl:y<ab (tabN l p 0):=by omega
  have hsu:=rM l p y;obtain⟨R,hR⟩:=xy l p (show y+1≤ab (tabN l p 0) by omega);have spI:=spE [y] o (by simp) (by rw[List.length_singleton];omega) (fun i hi=>by
   have e:i=0:=(by rw[List.length_singleton] at hi;omega)
   subst e;exact hyl) hol
  by_cases hfl:o.length+(ext l p p.steps.length [y]).length≤4096
  ·rw[decide_eq_true hfl,List.take_of_length_le (by rw[List.length_append];exact hfl)] at spI;refine gGo ?_;(refine gCA [(0,7),(1,90)] [] [] (spI) ?_;conv=>whnf);refine gGo ?_;exact gZ ⟨y+1,o++ext l p p.steps.length [y],by omega,(by rw[ho,hsu]),(by rw[List.length_append];exact hfl),rfl,rfl⟩
  ·have e1:a6 l p=(o++ext l p p.steps.length [y])++R:=by rw[hRL,hR,hsu,ho]
   have e4:(o++ext l p p.steps.length [y]).length=o.length+(ext l p p.steps.length [y]).length:=List.length_append;have e5:(a6 l p).length=(o++ext l p p.steps.length [y]).length+R.length:=by rw[e1,List.length_append]
   rw[decide_eq_false hfl] at spI;rw[if_neg (by omega),decide_eq_false (by omega)];refine gGo ?_;(refine gCA [(0,7),(1,90)] [] [] (spI) ?_;conv=>whnf);refine gGo ?_;(refine gM ?_;conv=>whnf);exact ret0 rfl rfl rfl
 ·have hye:y=ab (tabN l p 0):=by omega
  rw[hye,←hRL] at ho;rw[if_pos (by rw[←ho];exact hol),decide_eq_true (by rw[←ho];exact hol),←ho];refine gGo ?_;refine W.leG (mp:=[]) (bo:=[90]) (st':=⟨[(4,.sl (am o) false),(5,.bool true)],[],[]⟩)
   (LeG.mk' rfl rfl rfl ⟨⟨_,Lent.whole rfl rfl rfl rfl (.inl rfl),rfl⟩,⟨_,.refl _,rfl⟩,trivial⟩ .nil rfl rfl (by rw[hK];rfl)) ?_
  (refine gM ?_;conv=>whnf);exact ret0 rfl rfl rfl
theorem pI(l:List Table)(p:Pth):Spec Tryz.prog 45 [.sl (aa l) false,.agg p.row] [] (.tup [.sl (am (kz l p).1) false,.int .i64 (kz l p).2]) []:=by
 have spV:=ke l p;refine gEn env Tryz.func45 fun Γ hN hK hML=>?_;by_cases h:aD l p=0
 ·have sp:=xz h;have he:kz l p=if(a6 l p).length≤4096 then(a6 l p,0) else([],3):=by unfold kz;rw[if_pos h]
  rw[h] at spV;rw[he];by_cases hc:(a6 l p).length≤4096
  ·rw[if_pos hc,decide_eq_true hc] at sp;rw[if_pos hc];exact gR
  ·rw[if_neg hc,decide_eq_false hc] at sp;rw[if_neg hc];exact gR
 ·have he:kz l p=([],aD l p):=by unfold kz;rw[if_neg h]
  rw[he];exact gR
def dc:Nat→(Nat→Int)→Int
 | 0,_=>1
 |n+1,f=>dc n f*f n
theorem dZ{n:Nat}{f g:Nat→Int}(h:∀q,q<n→f q=g q):dc n f=dc n g:=by
 induction n with
 |zero=>rfl
 |succ n ih =>
  simp only[dc];rw[ih fun q hq=>h q (by omega),h n (by omega)]
theorem rN(n:Nat)(f g:Nat→Int):dc n (fun q=>f q*g q)=dc n f*dc n g:=by
 induction n with
 |zero=>rfl
 |succ n ih =>
  simp only[dc,ih];generalize dc n f=a;generalize dc n g=b;rw[Int.mul_assoc,Int.mul_assoc,Int.mul_left_comm b]
theorem rO(n:Nat):dc n (fun _=>1)=1:=by
 induction n with
 |zero=>rfl
 |succ n ih=>simp only[dc,ih,Int.mul_one]
theorem BX(n j:Nat)(c:Int)(h:j<n):dc n (fun q=>if q=j then c else 1)=c:=by
 induction n with
 |zero=>omega
 |succ n ih =>
  simp only[dc];by_cases e:j=n
  ·subst e;rw[dZ (g:=fun _=>1) (fun q hq=>if_neg (by omega)),rO,if_pos rfl,Int.one_mul]
  ·rw[ih (by omega),if_neg (fun h=>e h.symm),Int.mul_one]
theorem nz(f:Nat→Int)(g:Nat→Bool):∀m,(((List.range m).filter g).map (· + 1)).foldl (fun x k=>x*f k) 1=dc m (fun q=>if g q=true then f (q+1) else 1)
 | 0=>rfl
 |m+1=>by
  have ih:=nz f g m;rw[List.range_succ,List.filter_append,List.map_append,List.foldl_append,ih];simp only[dc];cases hg:g m with
  |true=>simp[hg]
  |false=>simp[hg]
section
variable {l:List Table}{p:Pth}
theorem uz{i r:Nat}(hi:i≤p.steps.length)(hr:r<ab (tabN l p i)):cntI l p i r=dc p.steps.length (fun q=>if parI p q=i then fitS l p (q+1) (ay (tabN l p i) (frN l p (q+1)) r) else 1):=by
 rw[vJ hi hr];unfold bY;rw[nz (fun k=>fitS l p k (ay (tabN l p i) (frN l p k) r)) (fun q=>decide (parI p q=i))];exact dZ fun q _=>by simp
variable (l p) in
end
def facS(l:List Table)(p:Pth)(hv:List Nat)(q:Nat):Int:=fitS l p (q+1) (ay (tabN l p (parI p q)) (frN l p (q+1)) (hv.getD (parI p q) 0))
def wgt(l:List Table)(p:Pth)(j:Nat)(hv:List Nat):Int:=dc p.steps.length (fun q=>if j≤q∧parI p q≤j then facS l p hv q else 1)
section
variable {l:List Table}{p:Pth}
theorem EY{hv:List Nat}:wgt l p p.steps.length hv=1:=by
 unfold wgt;rw[dZ (g:=fun _=>1) (fun q hq=>if_neg (by omega)),rO]
theorem dm{hv:List Nat}{y i:Nat}(h:i<hv.length):(hv++[y]).getD i 0=hv.getD i 0:=by
 rw[List.getD_eq_getElem?_getD,List.getD_eq_getElem?_getD,List.getElem?_append_left h]
theorem d5{hv:List Nat}{y:Nat}:(hv++[y]).getD hv.length 0=y:=by
 rw[List.getD_eq_getElem?_getD,List.getElem?_append_right (Nat.le_refl _),Nat.sub_self];rfl
theorem DO{j:Nat}{hv:List Nat}(hj:j<p.steps.length)(hl:hv.length=j+1) :
  wgt l p j hv=bS (ab (tabN l p (j+1))) fun y=>if cX l p j (hv.getD (parI p j) 0) y=true then wgt l p (j+1) (hv++[y]) else 0:=by
 have hA:wgt l p j hv=facS l p hv j*dc p.steps.length (fun q=>if j+1≤q∧parI p q≤j then facS l p hv q else 1):=by
  unfold wgt;rw[←BX p.steps.length j (facS l p hv j) hj,←rN];refine dZ fun q hq=>?_;have hp:=bz p (i:=q) (by omega);by_cases e:q=j
  ·subst e;rw[if_pos ⟨Nat.le_refl _,hp⟩,if_pos rfl,if_neg (by omega),Int.mul_one]
  ·rw[if_neg e,Int.one_mul];by_cases h2:j≤q∧parI p q≤j
   ·rw[if_pos h2,if_pos ⟨by omega,h2.2⟩]
   ·rw[if_neg h2,if_neg (fun h=>h2 ⟨by omega,h.2⟩)]
 have hB:∀y,y<ab (tabN l p (j+1))→wgt l p (j+1) (hv++[y])=dc p.steps.length (fun q=>if j+1≤q∧parI p q≤j then facS l p hv q else 1)*cntI l p (j+1) y:=fun y hy=>by
  rw[uz (by omega) hy,←rN];unfold wgt;refine dZ fun q hq=>?_;have hp:=bz p (i:=q) (by omega);by_cases e:parI p q=j+1
  ·rw[if_pos ⟨by omega,by omega⟩,if_neg (by omega),if_pos e,Int.one_mul];unfold facS;rw[e,show j+1=hv.length from hl.symm,d5]
  ·rw[if_neg e,Int.mul_one];by_cases h2:j+1≤q∧parI p q≤j
   ·rw[if_pos ⟨h2.1,by omega⟩,if_pos h2];unfold facS;rw[dm (by omega)]
   ·rw[if_neg h2,if_neg (fun h=>h2 ⟨h.1,by omega⟩)]
 rw[hA];generalize dc p.steps.length (fun q=>if j+1≤q∧parI p q≤j then facS l p hv q else 1)=A at *;unfold facS fitS;rw[Int.mul_comm,←BG];refine dR fun y hy=>?_;rw[hB y hy];unfold cX;split
 ·rfl
 ·exact Int.mul_zero _
theorem rP{α:Type}(f:Nat→List α):∀n,(((List.range n).flatMap f).length:Int)=bS n fun y=>((f y).length:Int)
 | 0=>rfl
 |n+1=>by
  rw[fw,List.length_append,Int.natCast_add,rP f n,bF]
theorem AM:∀(k:Nat) (hv:List Nat),hv≠[]→hv.length+k=p.steps.length+1→((ext l p k hv).length:Int)=wgt l p (hv.length-1) hv
 | 0,hv,hne,hl=>by
  rw[show hv.length-1=p.steps.length by omega,EY];rfl
 |k+1,hv,hne,hl=>by
  have hpos:0<hv.length:=List.length_pos_iff.2 hne;obtain⟨j,hj⟩:∃j,hv.length=j+1:=⟨hv.length-1,by omega⟩
  rw[show hv.length-1=j by omega,DO (by omega) hj];show((extN l p (ext l p k) hv (ab (tabN l p hv.length))).length:Int)=_;unfold extN;rw[rP,hj];refine dR fun y hy=>?_;unfold extF;rw[show hv.length-1=j by omega];split
  ·rw[AM k (hv++[y]) (by simp) (by rw[List.length_append,List.length_singleton];omega)];congr 1;rw[List.length_append,List.length_singleton];omega
  ·rfl
theorem EZ{r:Nat}(hr:r<ab (tabN l p 0)):cntI l p 0 r=((ext l p p.steps.length [r]).length:Int):=by
 rw[AM p.steps.length [r] (by simp) (by rw[List.length_singleton];omega),uz (Nat.zero_le _) hr];unfold wgt;refine dZ fun q hq=>?_;show _=if 0≤q∧parI p q≤0 then facS l p [r] q else 1
 by_cases e:parI p q=0
 ·rw[if_pos e,if_pos ⟨Nat.zero_le _,by omega⟩];unfold facS;rw[e];rfl
 ·rw[if_neg e,if_neg (fun h=>e (by omega))]
theorem rQ:bS (ab (tabN l p 0)) (cntI l p 0)=((a6 l p).length:Int):=by
 unfold a6 eX;rw[rP];exact dR fun r hr=>EZ hr
theorem vN:∀(k:Nat) (hv x:List Nat),hv≠[]→hv.length+k=p.steps.length+1→CombK l p hv.length (fun i=>hv.getD i 0)→x∈ext l p k hv→x.length=p.steps.length+1∧Comb l p (fun i=>x.getD i 0)∧∀i,i<hv.length→x.getD i 0=hv.getD i 0
 | 0,hv,x,hne,hl,hc,hx=>by
  have hx:x=hv:=List.mem_singleton.1 hx;subst hx;refine⟨by omega,?_,fun i _=>rfl⟩;unfold Comb;rw[show p.steps.length+1=x.length by omega];exact hc
 |k+1,hv,x,hne,hl,hc,hx=>by
  have hpos:0<hv.length:=List.length_pos_iff.2 hne;obtain⟨j,hj⟩:∃j,hv.length=j+1:=⟨hv.length-1,by omega⟩
  change x∈extN l p (ext l p k) hv (ab (tabN l p hv.length)) at hx;unfold extN at hx;rw[List.mem_flatMap] at hx;obtain⟨y,hy,h1⟩:=hx;have hy:=List.mem_range.1 hy;unfold extF at h1;rw[show hv.length-1=j by omega] at h1;split at h1
  ·rename_i hf;have hpar:=bz p (i:=j) (by omega);have hc2:CombK l p (hv++[y]).length (fun i=>(hv++[y]).getD i 0):=by
    rw[List.length_append,List.length_singleton];refine⟨fun i hi=>?_,fun q hq=>?_⟩
    ·by_cases e:i=hv.length
     ·subst e;simp only[d5];exact hy
     ·simp only[dm (show i<hv.length by omega)];exact hc.lt i (by omega)
    ·have hp:=bz p (i:=q) (by omega);by_cases e:q+1=hv.length
     ·obtain rfl:q=j:=by omega
      simp only[e,d5,dm (show parI p q<hv.length by omega)];exact hf
     ·simp only[dm (show q+1<hv.length by omega),dm (show parI p q<hv.length by omega)];exact hc.fit q (by omega)
   obtain⟨g1,g2,g3⟩:=vN k (hv++[y]) x (by simp) (by rw[List.length_append,List.length_singleton];omega) hc2 h1;refine⟨g1,g2,fun i hi=>?_⟩;rw[g3 i (by rw[List.length_append];omega),dm hi]
  ·cases h1
theorem oU{x:List Nat}(h:x∈a6 l p):x.length=p.steps.length+1∧Comb l p (fun i=>x.getD i 0):=by
 unfold a6 eX at h;rw[List.mem_flatMap] at h;obtain⟨r,hr,h1⟩:=h;have hr:=List.mem_range.1 hr;obtain⟨g1,g2,_⟩:=vN p.steps.length [r] x (by simp) (by rw[List.length_singleton];omega) ⟨fun i hi=>(by
  have e:i=0:=(by rw[List.length_singleton] at hi;omega)
  subst e;exact hr),fun q hq=>(by rw[List.length_singleton] at hq;omega)⟩ h1
 exact⟨g1,g2⟩
theorem AN{r:Nat→Nat}(hr:Comb l p r):∀(k j:Nat),j+1+k=p.steps.length+1→(List.range (p.steps.length+1)).map r∈ext l p k ((List.range (j+1)).map r)
 | 0,j,h=>by
  rw[show j+1=p.steps.length+1 by omega];exact List.mem_singleton.2 rfl
 |k+1,j,h=>by
  have ih:=AN hr k (j+1) (by omega);have hlen:((List.range (j+1)).map r).length=j+1:=by simp
  have hgd:∀i,i<j+1→((List.range (j+1)).map r).getD i 0=r i:=fun i hi=>by
   rw[List.getD_eq_getElem?_getD,List.getElem?_map,List.getElem?_range hi];rfl
  have hpar:=bz p (i:=j) (by omega);show _∈extN l p (ext l p k) ((List.range (j+1)).map r) (ab (tabN l p ((List.range (j+1)).map r).length));unfold extN;rw[List.mem_flatMap];refine⟨r (j+1),List.mem_range.2 (by rw[hlen];exact hr.lt _ (by omega)),?_⟩;unfold extF;rw[hlen,Nat.add_sub_cancel,hgd _ (by omega),if_pos (hr.fit j (by omega))];rw[List.range_succ,List.map_append] at ih;exact ih
theorem BY{r:Nat→Nat}(hr:Comb l p r):(List.range (p.steps.length+1)).map r∈a6 l p:=by
 unfold a6 eX;rw[List.mem_flatMap];exact⟨r 0,List.mem_range.2 (hr.lt 0 (by omega)),AN hr p.steps.length 0 (by omega)⟩
end
end Go.Sx.Sp
namespace Go.Sx.Sp
open Go Go.Sx Go.Proofs
attribute [local irreducible] aO famL
end Go.Sx.Sp
