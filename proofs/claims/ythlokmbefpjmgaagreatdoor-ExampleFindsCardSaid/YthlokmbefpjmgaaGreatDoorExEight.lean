/- Small functions of the document. -/
import Derived.Test.YthlokmbefpjmgaaGreatDoorExSeven
import Derived.Test.YthlokmbefpjmgaaGreatDoorRtFour
import Derived.Test.YthlokmbefpjmgaaGreatDoorSxFive
import Derived.Test.YthlokmbefpjmgaaGreatDoorSxFour
set_option linter.unusedVariables false
set_option linter.unusedSimpArgs false
set_option maxHeartbeats 16000000
namespace Go.Sx.Sp
open Go Go.Sx Go.Proofs Go.Sort
attribute [local irreducible] aO famL
theorem sY(cs:List Rf)(id:Int):Spec Tryz.prog 50 [.sl (ap cs) false,.int .i64 id] [] (.bool (cs.any (isT id))) []:=by
 have hrl:=bq cs;refine gEn env Tryz.func50 fun Γ hN hK hML=>?_;refine gGo ?_;intros;refine W.loopG (fun n st=>∃k:Nat,k≤cs.length∧(cs.drop k).any (isT id)=cs.any (isT id)∧n=cs.length-k∧st=⟨[(1,.int .i64 id),(7,.sl (ap cs) false),(8,.int .i64 (ap cs).length),(9,.int .i64 k)],[],[]⟩)
  cs.length _ ⟨0,by omega,rfl,by omega,rfl⟩ gX ?_
 rintro n st ⟨k,hk,he,rfl,rfl⟩;refine gT (fun hb=>?_) fun hb=>?_
 ·have hlt:k<cs.length:=by omega
  have hg:=cE hlt;rw[List.drop_eq_getElem_cons hlt,List.any_cons] at he;generalize cs[k]=r at *;refine gT (fun hb=>?_) fun hb=>?_
  ·rw[show isT id r=true from decide_eq_true (by assumption),Bool.true_or] at he;rw[←he];exact gR
  ·rw[show isT id r=false from decide_eq_false (by assumption),Bool.false_or] at he;refine gGo ?_;exact gZ ⟨k+1,by omega,he,rfl,rfl⟩
 ·rw[List.drop_eq_nil_of_le (by omega)] at he;rw[←he];exact gR
theorem EK(c d:Rf):([c.t,c.c]=[d.t,d.c])↔c=d:=by
 cases c;cases d;simp
theorem Fi{N:NB}{o:Oper}{h:Nat→List Blk}{ρ:Operand→V}{t':Nat}{x y:Operand}(hop:o.op=.binOp .neq 67 x y t')(c d:Rf)(hx:ρ x=.agg c.row)(hy:ρ y=.agg d.row)(hd:dL N o.dst=true):aO Tryz.prog N o ρ h (.bool (!decide (c=d))) [] []:=by
 have h1:=oD (P:=Tryz.prog) (N:=N) (h:=h) (ρ:=ρ) (op:=.neq) hop (.inr rfl) (by kernel_rfl)
  (fun l l' w a b=>EqI.equal (n:=2) (d:=10000) (qv (d:=9999) (n0:=1) (n1:=1) Tryz.underlying67 (by kernel_rfl) (by kernel_rfl) (by kernel_rfl) rfl rfl Tryz.isAgg67 Tryz.sizeOf67 (lx Tryz.underlying3) (lx Tryz.underlying3)) rfl Tryz.isAgg67 Tryz.sizeOf67 a b w) (l:=[c.t,c.c]) (l':=[d.t,d.c]) rfl rfl hx hy
 have e:decide (c=d)=decide ([c.t,c.c]=[d.t,d.c]):=decide_eq_decide.2 (EK c d).symm;rw[e];exact h1.toW hd
theorem tC(a b:List Rf):Spec Tryz.prog 62 [.sl (ap a) false,.sl (ap b) false] [] (.bool (decide (a=b))) []:=by
 have hal:=bq a;have hbl:=bq b;refine gEn env Tryz.func62 fun Γ hN hK hML=>?_;by_cases hl:a.length=b.length
 ·refine gGo ?_;intros;refine W.loopG (fun n st=>∃k:Nat,k≤a.length∧a.take k=b.take k∧n=a.length-k∧st=⟨[(1,.sl (ap b) false),(12,.sl (ap a) false),(13,.int .i64 (ap a).length),(14,.int .i64 k)],[],[]⟩)
   a.length _ ⟨0,by omega,rfl,by omega,rfl⟩ gX ?_
  rintro n st ⟨k,hk,he,rfl,rfl⟩;refine gT (fun hb=>?_) fun hb=>?_
  ·have hlt:k<a.length:=by omega
   have hlt2:k<b.length:=by omega
   have hg:=cE hlt;have hg2:=cE hlt2;have hx:a[k]≠b[k]→a≠b:=fun h e=>h (by subst e;rfl);have hy:a[k]=b[k]→a.take (k+1)=b.take (k+1):=fun h=>by rw[List.take_succ_eq_append_getElem hlt,List.take_succ_eq_append_getElem hlt2,he,h]
   generalize a[k]=r at *;generalize b[k]=s at *;refine g ?_;refine⟨_,_,_,Fi rfl s r rfl rfl (by kernel_rfl),?_⟩;by_cases e6:s=r
   ·rw[decide_eq_true e6];(conv=>whnf);refine gGo ?_;refine⟨a.length-(k+1),_,by omega,⟨k+1,by omega,hy e6.symm,rfl,rfl⟩,[],[6],[],LeG.mq .nil⟩
   ·rw[decide_eq_false e6,decide_eq_false (hx fun e=>e6 e.symm)];(conv=>whnf);exact gR
  ·have hk:k=a.length:=by omega
   subst hk;rw[List.take_length,List.take_of_length_le (by omega)] at he;rw[decide_eq_true he];exact gR
 ·rw[decide_eq_false fun h=>hl (by rw[h])];exact gR
def exV(x:Fnd):List V:=[.int .i64 x.p.start,.sl (ae x.p.steps) false,.sl [] false,.sl (ap x.cs) false]
theorem qg(a b:Fnd):Spec Tryz.prog 26 [.agg (exV a),.agg (exV b)] [] (.bool (decide (a.p=b.p∧a.cs=b.cs))) []:=by
 have s1:=tA a.p b.p;have s2:=tC a.cs b.cs;by_cases h1:a.p=b.p
 ·rw[decide_eq_true h1] at s1;by_cases h2:a.cs=b.cs
  ·rw[decide_eq_true h2] at s2;rw[decide_eq_true ⟨h1,h2⟩];refine gEn env Tryz.func26 fun Γ hN hK hML=>?_;(refine g ?_;intros);refine W.loopG (fun n st=>n=0∧st=⟨[(32,.int .i64 0),(33,.int .i64 0)],[],[]⟩)
    0 _ ⟨rfl,rfl⟩ gX ?_
   rintro n st ⟨rfl,rfl⟩;exact gR
  ·rw[decide_eq_false h2] at s2;rw[decide_eq_false fun h=>h2 h.2];refine gEn env Tryz.func26 fun Γ hN hK hML=>?_;exact gR
 ·rw[decide_eq_false h1] at s1;rw[decide_eq_false fun h=>h1 h.1];refine gEn env Tryz.func26 fun Γ hN hK hML=>?_;exact gR
theorem FH(a b:Fnd):a=b↔a.rows=b.rows∧a.p=b.p∧a.cs=b.cs:=by cases a;cases b;simp;constructor<;>intro h<;>simp_all
theorem yI(a b:List Fnd):Spec Tryz.prog 19 [.sl (av a) false,.sl (av b) false] [] (.bool (decide (a=b))) []:=by
 have hal:=bE a;have hbl:=bE b;refine gEn env Tryz.func19 fun Γ hN hK hML=>?_;by_cases hl:a.length=b.length
 ·refine gGo ?_;intros;refine W.loopG (fun n st=>∃k:Nat,k≤a.length∧a.take k=b.take k∧n=a.length-k∧st=⟨[(1,.sl (av b) false),(12,.sl (av a) false),(13,.int .i64 (av a).length),(14,.int .i64 k)],[],[]⟩)
   a.length _ ⟨0,by omega,rfl,by omega,rfl⟩ gX ?_
  rintro n st ⟨k,hk,he,rfl,rfl⟩;refine gT (fun hb=>?_) fun hb=>?_
  ·have hlt:k<a.length:=by omega
   have hlt2:k<b.length:=by omega
   have hg:=iU hlt;have hg2:=iU hlt2;have hx:a[k]≠b[k]→a≠b:=fun h e=>h (by subst e;rfl);have hy:a[k]=b[k]→a.take (k+1)=b.take (k+1):=fun h=>by rw[List.take_succ_eq_append_getElem hlt,List.take_succ_eq_append_getElem hlt2,he,h]
   generalize a[k]=r at *;generalize b[k]=s at *;have sp:=qg r s;have hrs:=FH r s;by_cases h1:r.rows=s.rows
   ·by_cases h2:r.p=s.p∧r.cs=s.cs
    ·rw[decide_eq_true h2] at sp;refine g ?_;exact gZ ⟨k+1,by omega,hy (hrs.2 ⟨h1,h2⟩),rfl,rfl⟩
    ·rw[decide_eq_false h2] at sp;rw[decide_eq_false (hx fun e=>h2 (hrs.1 e).2)];exact gR
   ·rw[decide_eq_false (hx fun e=>h1 (hrs.1 e).1)];exact gR
  ·have hk:k=a.length:=by omega
   subst hk;rw[List.take_length,List.take_of_length_le (by omega)] at he;rw[decide_eq_true he];exact gR
 ·rw[decide_eq_false fun h=>hl (by rw[h])];exact gR
section
attribute [local instance] GQ
theorem yJ(a b:Fnd):Spec Tryz.prog 51 [.agg a.row,.agg b.row] [] (.int .i64 (fndC a b)) []:=by
 have hal:=bq a.cs;have hbl:=bq b.cs;have s1:=jd (ae a.p.steps).length (ae b.p.steps).length;have s2:=jd a.rows b.rows;have s3:=lc a.p b.p;have sn:=jd (ap a.cs).length (ap b.cs).length;have hord:fndC a b=if cmpJ ((ae a.p.steps).length:Nat) ((ae b.p.steps).length:Nat)=0 then(if cmpJ a.rows b.rows=0 then(if ordC a.p b.p=0 then lexC refC a.cs b.cs else ordC a.p b.p) else cmpJ a.rows b.rows) else cmpJ ((ae a.p.steps).length:Nat) ((ae b.p.steps).length:Nat):=by
  rw[A6,kg,aC,aC]
 rw[hord];clear hord;generalize cmpJ ((ae a.p.steps).length:Nat) ((ae b.p.steps).length:Nat)=z1 at *;generalize cmpJ a.rows b.rows=z2 at *;generalize ordC a.p b.p=z3 at *;refine gEn env Tryz.func51 fun Γ hN hK hML=>?_;refine gA ?_;(refine gE env hN (by kernel_rfl) ?_;conv=>whnf);refine gGs ?_;refine W.leG (mp:=[]) (bo:=[2,3]) (st':=⟨[(2,.ro a.row 0),(3,.ro b.row 0)],[],[]⟩)
  (LeG.mk' rfl rfl rfl ⟨⟨_,.bp 2 0 5 a.row none rfl rfl (by simp[Fnd.row]) (.inr rfl),rfl⟩,⟨_,.bp 3 0 5 b.row none rfl rfl (by simp[Fnd.row]) (.inr rfl),rfl⟩,trivial⟩ .nil rfl rfl (by rw[hK];rfl)) ?_
 by_cases h1:z1=0
 ·rw[if_pos h1];subst h1;by_cases h2:z2=0
  ·rw[if_pos h2];subst h2;by_cases h3:z3=0
   ·rw[if_pos h3];subst h3;refine gGo ?_;intros;(refine gPC (s1) ?_;conv=>whnf);refine gGo ?_;(refine gPC (s2) ?_;conv=>whnf);refine gGo ?_;(refine gPC (s3) ?_;conv=>whnf);refine gGo ?_;refine W.loopG (fun m st=>∃i:Nat,i≤a.cs.length∧i≤b.cs.length∧lexC refC (a.cs.drop i) (b.cs.drop i)=lexC refC a.cs b.cs∧m=a.cs.length-i∧st=⟨[(2,.ro a.row 0),(3,.ro b.row 0),(8,.int .i64 (i:Nat))],[],[]⟩)
     a.cs.length _ ⟨0,by omega,by omega,rfl,by omega,rfl⟩ gX ?_
    rintro m st ⟨i,hi,hib,he,rfl,rfl⟩;by_cases hil:i<a.cs.length∧i<b.cs.length
    ·obtain⟨hil,hbi⟩:=hil;have hg:=cE hil;have hg2:=cE hbi;rw[lJ hil hbi] at he;have s4:=jc a.cs[i] b.cs[i];generalize hx:a.cs[i]=x at *;generalize hy:b.cs[i]=y at *;generalize refC x y=z4 at *;refine g ?_;by_cases hz:z4=0
     ·subst hz;rw[if_pos rfl] at he;refine gGo ?_;intros;exact gZ ⟨i+1,by omega,by omega,he,rfl,rfl⟩
     ·rw[if_neg hz] at he;rw[←he];exact gR
    ·rw[AP (by omega) hi hib] at he;have he2:cmpJ ((ap a.cs).length:Nat) ((ap b.cs).length:Nat)=lexC refC a.cs b.cs:=by rw[hal,hbl];exact he
     rw[←he2];by_cases hil:i<a.cs.length
     ·refine gGo ?_;intros;(refine gPC (sn) ?_;conv=>whnf);refine gGr ?_;exact ret0 rfl rfl rfl
     ·refine gGo ?_;intros;(refine gPC (sn) ?_;conv=>whnf);refine gGr ?_;exact ret0 rfl rfl rfl
   ·rw[if_neg h3];refine gGo ?_;intros;(refine gPC (s1) ?_;conv=>whnf);refine gGo ?_;(refine gPC (s2) ?_;conv=>whnf);refine gGo ?_;(refine gPC (s3) ?_;conv=>whnf);refine gGr ?_;exact ret0 rfl rfl rfl
  ·rw[if_neg h2];refine gGo ?_;intros;(refine gPC (s1) ?_;conv=>whnf);refine gGo ?_;(refine gPC (s2) ?_;conv=>whnf);refine gGr ?_;exact ret0 rfl rfl rfl
 ·rw[if_neg h1];refine gGo ?_;intros;(refine gPC (s1) ?_;conv=>whnf);refine gGr ?_;exact ret0 rfl rfl rfl
end
theorem At(a b:Fnd):Spec Tryz.prog 51 [.agg a.row,.agg b.row] [] (.int .i64 (fndC a b)) []:=Spec.ofQuiet (yJ a b) fun u hu=>by
 simp at hu;rcases hu with rfl|rfl<;>simp[V.sites,a7,Fnd.row]
theorem yK(ts:List Table)(ht:ts.length≤1000)(hc:∀t∈ts,t.cols.length≤1000):Spec Tryz.prog 49 [.sl (aa ts) false] [] (.sl (ap (dr ts)) false) []:=by
 have htl:=aP ts;have hRl:∀i,(ga ts i).length≤1000000:=fun i=>by
  have key:∀ts:List Table,(∀t∈ts,t.cols.length≤1000)→(ts.flatMap fun t=>bx t t.cols.length).length≤ts.length*1000:=by
   intro ts
   induction ts with
   |nil=>intro _;simp
   |cons t ts ih =>
    intro h;have h1:=ih fun u hu=>h u (List.mem_cons_of_mem _ hu);have h2:=lR t t.cols.length;have h3:=h t List.mem_cons_self;rw[List.flatMap_cons,List.length_append,List.length_cons,Nat.add_mul];omega
  refine Nat.le_trans (key _ fun t ht=>hc t (List.mem_of_mem_take ht)) ?_;have:(ts.take i).length≤ts.length:=by rw[List.length_take];omega
  omega
 refine gEn env Tryz.func49 fun Γ hN hK hML=>?_;refine gGo ?_;intros;refine W.ownNil 3 90 2 rfl rfl ?_;refine W.loopR (fun m st=>∃(i:Nat) (O:List Rf),i≤ts.length∧O=ga ts i∧m=ts.length-i∧st=⟨[(3,.osl 90 0 0 O.length O.length),(11,.sl (aa ts) false),(12,.int .i64 (aa ts).length),(13,.int .i64 (i:Nat))],[(90,[.rows 2 (ap O) (some [])])],[90]⟩)
  ts.length _ ⟨0,[],by omega,rfl,by omega,rfl⟩ gY ?_
 rintro m st ⟨i,O,hi,hO,rfl,rfl⟩;refine gT (fun hb=>?_) fun hb=>?_
 ·have hil:i<ts.length:=by omega
  have hg:=bi hil;have hsu:=sV hil;have hcl:=hc _ (List.getElem_mem hil);have hRi:=hRl i;generalize ts[i]=t at *;have hkl:=aB t.cols;(refine g ?_;intros);refine W.loopR (fun m st=>∃(k:Nat) (O:List Rf),k≤t.cols.length∧O=ga ts i++bx t k∧m=t.cols.length-k∧st=⟨[(3,.osl 90 0 0 O.length O.length),(11,.sl (aa ts) false),(12,.int .i64 (aa ts).length),(13,.int .i64 (i:Nat)),(5,.bp 5 0),(18,.sl (ai t.cols) false),(19,.int .i64 (ai t.cols).length),(20,.int .i64 (k:Nat))],[(90,[.rows 2 (ap O) (some [])]),(5,[.rows 3 [t.row] none])],[90,5]⟩)
   t.cols.length _ ⟨0,O,by omega,by rw[hO];simp[bx],by omega,rfl⟩ gY ?_
  clear hO O;rintro m st ⟨k,O,hk,hO,rfl,rfl⟩;refine gT (fun hb=>?_) fun hb=>?_
  ·have hkl2:k<t.cols.length:=by omega
   have hcg:=aW hkl2;have hst:=sO t k;rw[show t.cols.getD k ⟨[],[]⟩=t.cols[k] by simp[List.getD_eq_getElem?_getD,hkl2]] at hst;have hol:O.length≤2000000:=by
    rw[hO,List.length_append];have:=lR t k;omega
   have hrl:=bq O;generalize t.cols[k]=c at *;have hll:=aF c.cells;(refine g ?_;intros);refine W.loopR (fun m st=>∃(j:Nat) (b:Bool),j≤c.cells.length∧(b ||(c.cells.drop j).any fun x=>!x.null)=yo c∧m=c.cells.length-j∧st=⟨[(3,.osl 90 0 0 O.length O.length),(11,.sl (aa ts) false),(12,.int .i64 (aa ts).length),(13,.int .i64 (i:Nat)),(5,.bp 5 0),(18,.sl (ai t.cols) false),(19,.int .i64 (ai t.cols).length),(20,.int .i64 (k:Nat)),(6,.int .i64 (k:Nat)),(8,.bool b),(26,.sl (aj c.cells) false),(27,.int .i64 (aj c.cells).length),(28,.int .i64 (j:Nat))],[(90,[.rows 2 (ap O) (some [])]),(5,[.rows 3 [t.row] none])],[90,5]⟩)
    c.cells.length _ ⟨0,false,by omega,rfl,by omega,rfl⟩ gY ?_
   rintro m st ⟨j,b,hj,hbb,rfl,rfl⟩;refine gT (fun hb=>?_) fun hb=>?_
   ·have hjl:j<c.cells.length:=by omega
    have hxg:=aY hjl;rw[List.drop_eq_getElem_cons hjl,List.any_cons] at hbb;generalize c.cells[j]=x at *;obtain⟨xn,xt⟩:=x;cases b with
    |true =>
     refine g ?_;exact gW ⟨j+1,true,by omega,by rw[Bool.true_or] at hbb ⊢;exact hbb,rfl,rfl⟩
    |false =>
     refine g ?_;exact gW ⟨j+1,!xn,by omega,by rw[Bool.false_or] at hbb;exact hbb,rfl,rfl⟩
   ·have hje:j=c.cells.length:=by omega
    subst hje;rw[List.drop_length,List.any_nil,Bool.or_false] at hbb;rw[←hbb] at hst;cases b with
    |true =>
     rw[if_pos rfl] at hst;refine gGo ?_;refine⟨⟨ao rfl au,hrl.symm⟩,bc (n:=O.length+1) (b:=16) (by omega) (by omega),.inl ⟨rfl,rfl,?_⟩⟩;(conv=>whnf);refine gGo ?_;refine⟨_,_,?_,⟨k+1,O++[⟨t.id,(k:Int)⟩],by omega,by rw[hst,hO,List.append_assoc],rfl,rfl⟩,Ref.le (mp:=[(90,90),(5,5)]) (bo:=[]) (gs:=[]) (LeG.mk' rfl rfl rfl (by rw[show(O++[(⟨t.id,(k:Int)⟩:Rf)]).length=O.length+1 from List.length_append];exact(by repeat' (first|exact trivial|exact⟨_,.refl _,rfl⟩|apply And.intro))) (.cons 90 rfl rfl (.refl _) (by rw[fX];rfl) (.ci 5 .nil)) rfl rfl (by rw[hK];rfl))⟩;omega
    |false =>
     rw[if_neg (by decide)] at hst;refine gGo ?_;exact gW ⟨k+1,O,by omega,by rw[hst,hO],rfl,rfl⟩
  ·have hke:k=t.cols.length:=by omega
   subst hke;refine gGo ?_;exact gW ⟨i+1,O,by omega,by rw[hsu,hO],rfl,rfl⟩
 ·have hie:i=ts.length:=by omega
  subst hie;rw[pb] at hO;subst hO;refine gGo ?_;refine W.leG (mp:=[]) (bo:=[90]) (st':=⟨[(2,.sl (ap (dr ts)) false)],[],[]⟩)
   (LeG.mk' rfl rfl rfl ⟨⟨_,Lent.whole rfl rfl (by rw[bq]) rfl (.inl rfl),rfl⟩,trivial⟩ .nil rfl rfl (by rw[hK];rfl)) ?_
  (refine gM ?_;conv=>whnf);exact ret0 rfl rfl rfl
theorem CT(l:List Rf):lT (ap l)=true:=by
 unfold lT ap;rw[List.all_eq_true];intro r hr;obtain⟨c,_,rfl⟩:=List.mem_map.1 hr;rfl
def bT(L:List (List Rf)):List (List V):=L.map fun cs=>[.sl (ap cs) false]
theorem kr(L:List (List Rf)):(bT L).length=L.length:=by simp[bT]
theorem sZ{L:List (List Rf)}{i:Nat}(h:i<L.length):(bT L)[i]?=some [.sl (ap L[i]) false]:=by simp[bT,h]
theorem yL(L:List (List Rf))(x:List Rf):bT (L++[x])=bT L++[[.sl (ap x) false]]:=by simp[bT]
theorem oc(R:List Rf)(hR:R.length≤1000):∀n:Nat,n≤3→Spec Tryz.prog 48 [.sl (ap R) false,.int .i64 (n:Nat)] [] (.sl (bT (cw R n)) false) []
 | 0,_=>by
  show Spec Tryz.prog 48 [.sl (ap R) false,.int .i64 0] [] (.sl (bT [[]]) false) [];refine gEn env Tryz.func48 fun Γ hN hK hML=>?_;refine gGl ?_;refine Or.inl ?_;(conv=>whnf);refine gGo ?_;refine W.leG (mp:=[(12,12)]) (bo:=[]) (st':=⟨[(4,.osl 12 0 0 1 1)],[(12,[.rows 1 (bT [[]]) none])],[12]⟩)
   (LeG.mq (.cons 12 (b1:=.rows 1 (bT [[]]) none) rfl rfl (.rows _ _ _ ⟨⟨⟨.norm _,rfl⟩,trivial⟩,trivial⟩) rfl .nil)) ?_
  refine W.leG (mp:=[]) (bo:=[12]) (st':=⟨[(4,.sl (bT [[]]) false)],[],[]⟩)
   (LeG.mk' rfl rfl rfl ⟨⟨_,Lent.whole rfl rfl rfl rfl (.inr rfl),rfl⟩,trivial⟩ .nil rfl rfl (by rw[hK];rfl)) ?_
  (refine gM ?_;conv=>whnf);exact ret0 rfl rfl rfl
 |n+1,hn=>by
  have ih:=oc R hR n (by omega);have hcount:=e7 R n;have hclen:=gk R n;have hch:(cw R n).length*R.length≤1000000000:=by
   rw[hcount,←Nat.pow_succ];refine Nat.le_trans (Nat.pow_le_pow_left hR _) ?_;exact Nat.le_trans (Nat.pow_le_pow_right (by omega) (show n.succ≤3 by omega)) (by decide)
  show Spec Tryz.prog 48 [.sl (ap R) false,.int .i64 ((n+1:Nat):Int)] [] (.sl (bT ((cw R n).flatMap fun c=>R.map fun r=>c++[r])) false) [];generalize cw R n=ch at *;have hcl:=kr ch;have hRl:=bq R;refine gEn env Tryz.func48 fun Γ hN hK hML=>?_;have hn1:((n:Nat):Int)=((n+1:Nat):Int)-1:=by omega
  rw[hn1] at ih;(refine g ?_;intros);refine W.ownNil 5 90 1 rfl rfl ?_;refine W.loopR (fun m st=>∃(i:Nat) (O:List (List Rf)),i≤ch.length∧O=(ch.take i).flatMap (fun c=>R.map fun r=>c++[r])∧O.length+(ch.length-i)*R.length=ch.length*R.length∧m=ch.length-i∧st=⟨[(0,.sl (ap R) false),(5,.osl 90 0 0 O.length O.length),(16,.sl (bT ch) false),(17,.int .i64 (bT ch).length),(18,.int .i64 (i:Nat))],[(90,[.rows 1 (bT O) (some [])])],[90]⟩)
   ch.length _ ⟨0,[],by omega,rfl,by simp,by omega,rfl⟩ gY ?_
  rintro m st ⟨i,O,hi,hO,hOl,rfl,rfl⟩;refine gT (fun hb=>?_) fun hb=>?_
  ·have hil:i<ch.length:=by omega
   have hg:=sZ hil;have hcl2:=(hclen _ (List.getElem_mem hil)).1;have hsu:(ch.take (i+1)).flatMap (fun c=>R.map fun r=>c++[r])=O++R.map fun r=>ch[i]++[r]:=by
    rw[hO,List.take_succ_eq_append_getElem hil,List.flatMap_append];simp
   generalize ch[i]=c at *;rw[show ch.length-i=(ch.length-(i+1))+1 by omega,Nat.succ_mul] at hOl;obtain⟨base,hbase⟩:∃b,O.length=b:=⟨_,rfl⟩
   rw[hbase] at hOl;have hrc:=bq c;(refine g ?_;intros);refine W.loopR (fun m st=>∃(j:Nat) (P:List (List Rf)),j≤R.length∧P=O++(R.take j).map (fun r=>c++[r])∧P.length=base+j∧m=R.length-j∧st=(fun O=>⟨[(0,.sl (ap R) false),(5,.osl 90 0 0 O.length O.length),(16,.sl (bT ch) false),(17,.int .i64 (bT ch).length),(18,.int .i64 (i:Nat)),(7,.sl (ap c) false),(22,.sl (ap R) false),(23,.int .i64 (ap R).length),(24,.int .i64 (j:Nat))],[(90,[.rows 1 (bT O) (some [])])],[90]⟩) P)
    R.length _ ⟨0,O,by omega,by simp,by omega,by omega,rfl⟩ gY ?_
   rintro m st ⟨j,P,hj,hP,hPl,rfl,rfl⟩;simp only;have hpr:=kr P;refine gT (fun hb=>?_) fun hb=>?_
   ·have hjl:j<R.length:=by omega
    have hrg:=cE hjl;have hsp:O++(R.take (j+1)).map (fun r=>c++[r])=P++[c++[R[j]]]:=by
     rw[hP,List.take_succ_eq_append_getElem hjl,List.map_append,List.append_assoc];rfl
    generalize R[j]=r at *;have hpb:lT (ap c++[r.row])=true:=by rw[←fX];exact CT _
    have hs:List.drop (Int.toNat 0) (List.take (((ap c).length:Nat):Int).toNat (ap c))=ap c:=by rw[Int.toNat_natCast,List.take_length];rfl
    (refine g ?_;intros);refine And.intro (pc _) ?_;rw[hs];(conv=>whnf);refine gGo ?_;refine⟨⟨ao rfl au,pc _,fun h=>by cases h⟩,bc (n:=(ap c).length+1) (b:=16) (by omega) (by omega),?_⟩;(conv=>whnf);refine Or.inr ⟨⟨rfl,(by rw[List.length_append]),(by rw[List.length_append]),hpb⟩,?_⟩;(conv=>whnf);refine gGo ?_;refine⟨⟨ao rfl au,hpr.symm⟩,bc (n:=P.length+1) (b:=24) (by omega) (by omega),.inl ⟨rfl,rfl,?_⟩⟩;(conv=>whnf);refine gGo ?_;refine⟨_,_,?_,⟨j+1,P++[c++[r]],by omega,hsp.symm,by rw[List.length_append,List.length_singleton];omega,rfl,rfl⟩,Ref.le (mp:=[(90,90)]) (bo:=[]) (gs:=[]) (LeG.mk' rfl rfl rfl (by rw[show(P++[c++[r]]).length=P.length+1 from List.length_append];exact(by repeat' (first|exact trivial|exact⟨_,.refl _,rfl⟩|apply And.intro))) (.cons 90 rfl rfl (.refl _) (by rw[yL,fX];rfl) .nil) rfl rfl (by rw[hK];rfl))⟩;omega
   ·have hje:j=R.length:=by omega
    subst hje;rw[List.take_length] at hP;refine gGo ?_;exact gW ⟨i+1,P,by omega,by rw[hsu,hP],by omega,rfl,rfl⟩
  ·have hie:i=ch.length:=by omega
   subst hie;rw[List.take_length] at hO;rw[←hO];refine gGo ?_;refine W.leG (mp:=[]) (bo:=[90]) (st':=⟨[(4,.sl (bT O) false)],[],[]⟩)
    (LeG.mk' rfl rfl rfl ⟨⟨_,Lent.whole rfl rfl (by rw[kr]) rfl (.inl rfl),rfl⟩,trivial⟩ .nil rfl rfl (by rw[hK];rfl)) ?_
   (refine gM ?_;conv=>whnf);exact ret0 rfl rfl rfl
def s6{α:Type}(c:α→α→Int)(l:List α):Prop:=l.Pairwise fun a b=>¬c b a<0
theorem CU{α:Type}(c:α→α→Int)(l:List α)(x:α):(insC c l x).Perm (x::l):=by
 unfold insC;refine List.perm_middle.trans ?_;rw[List.take_append_drop]
theorem s7{α:Type}{c:α→α→Int}(h:TotC c){a b d:α}(h1:¬c b a<0)(h2:¬c d b<0):¬c d a<0:=by
 intro h3;rcases h.tri a b with g|g|g
 ·exact h2 (h.trans _ _ _ h3 g)
 ·subst g;exact h2 h3
 ·exact h1 g
theorem CV{α:Type}{c:α→α→Int}(h:TotC c){l:List α}{x:α}(ha:s6 c l):s6 c (insC c l x):=by
 have hhi:=fun j y=>vQ (c:=c) (l:=l) (x:=x) l.length j y;have hlo:=fun i y=>vR (c:=c) (l:=l) (x:=x) l.length i y;have hle:=nE c l x l.length;unfold insC;generalize hp:plcC c l x l.length=p at *;have hgt:∀a∈l.take p,¬c x a<0:=by
  intro a hm;obtain⟨q,rfl⟩:∃q,p=q+1:=by
   cases p with
   |zero=>simp at hm
   |succ q=>exact⟨q,rfl⟩
  have hq:q<l.length:=by omega
  have h1:=hlo q l[q] rfl (List.getElem?_eq_getElem hq);obtain⟨j,hj⟩:=List.getElem?_of_mem hm;rw[List.getElem?_take] at hj;split at hj
  ·rename_i hjq;have hjl:=(List.getElem?_eq_some_iff.1 hj).1;have hje:=(List.getElem?_eq_some_iff.1 hj).2;by_cases e:j=q
   ·subst e;rw[←hje];exact h1
   ·have:=List.pairwise_iff_getElem.1 ha j q hjl hq (by omega);rw[hje] at this;exact s7 h this h1
  ·cases hj
 have hlt:∀b∈l.drop p,c x b<0:=by
  intro b hm;obtain⟨j,hj⟩:=List.getElem?_of_mem hm;rw[List.getElem?_drop] at hj;have:=(List.getElem?_eq_some_iff.1 hj).1;exact hhi (p+j) b (by omega) this hj
 have hlt2:∀b∈l.drop p,¬c b x<0:=fun b hm g=>h.irr _ (h.trans _ _ _ (hlt b hm) g);unfold s6 at *;rw[List.pairwise_append];refine⟨ha.sublist (List.take_sublist _ _),List.pairwise_cons.2 ⟨hlt2,ha.sublist (List.drop_sublist _ _)⟩,fun a hma b hmb=>?_⟩;rcases List.mem_cons.1 hmb with rfl|hmb
 ·exact hgt a hma
 ·exact s7 h (hgt a hma) (hlt2 b hmb)
theorem CW{α:Type}{c:α→α→Int}(h:TotC c){l m:List α}(hp:l.Perm m)(h1:s6 c l)(h2:s6 c m):l=m:=by
 refine hp.eq_of_pairwise (le:=fun a b=>¬c b a<0) (fun a b _ _ g1 g2=>?_) h1 h2;rcases h.tri a b with g|g|g
 ·exact absurd g g2
 ·exact g
 ·exact absurd g g1
theorem A7{α:Type}{c:α→α→Int}(h:TotC c):∀(ps Q:List α),s6 c Q→s6 c (ps.foldl (insC c) Q)∧(ps.foldl (insC c) Q).Perm (Q++ps)
 | [],Q,hQ=>⟨hQ,by simp⟩
 |p::ps,Q,hQ=>by
  obtain⟨h1,h2⟩:=A7 h ps (insC c Q p) (CV h hQ);refine⟨h1,h2.trans ?_⟩;refine((CU c Q p).append_right ps).trans ?_;exact(List.perm_middle (a:=p) (l₁:=Q) (l₂:=ps)).symm
theorem lS{α:Type}{c:α→α→Int}(h:TotC c)(ps:List α):ps.foldl (insC c) []=bw c ps:=by
 obtain⟨h1,h2⟩:=A7 h ps [] List.Pairwise.nil;exact CW h (h2.trans (fS c ps).symm) h1 (ld h ps)
def gl(l:List Table)(q:Table)(p:Pth)(O:List Fnd)(cs:List Rf):List Fnd:=if ansB l p q cs=true then insC fndC O (mkF l p cs) else O
theorem qh(l:List Table)(q:Table)(p:Pth):∀(ch:List (List Rf)) (O:List Fnd),ch.foldl (gl l q p) O=((ch.filter (ansB l p q)).map (mkF l p)).foldl (insC fndC) O
 | [],O=>rfl
 |cs::ch,O=>by
  rw[List.foldl_cons,qh l q p ch,List.filter_cons];unfold gl;split<;>rfl
theorem qi(l:List Table)(q:Table)(p:Pth):∀(ch:List (List Rf)) (O:List Fnd),(ch.foldl (gl l q p) O).length≤O.length+ch.length
 | [],O=>Nat.le_refl _
 |cs::ch,O=>by
  rw[List.foldl_cons];refine Nat.le_trans (qi l q p ch _) ?_;unfold gl;split
  ·rw[xM,List.length_cons];omega
  ·rw[List.length_cons];omega
theorem Fj{l:List Table}{p:Pth}{cs:List Rf}(h:aD l p=0)(hn:(a6 l p).length≤4096)(hc:∀r∈cs,r∈dr (aG l p))(hl:cs.length≤3):sJ l ⟨p,[],cs⟩=0:=by
 have h1:je l ⟨p,[],cs⟩=0:=by
  unfold je;have h2:cs.any (nhR l p)=false:=by
   rw[List.any_eq_false];intro r hr;unfold nhR;rw[u5 h (hc r hr)];decide
  rw[if_pos h,if_pos ⟨by simp,by show cs.length≤64;omega⟩,if_pos ⟨rfl,h2⟩];rfl
 unfold sJ;rw[if_pos h1];unfold nT;rw[if_pos h,if_pos hn]
theorem Fk{l:List Table}{p:Pth}(h:aD l p=0)(hs:0<p.steps.length){t:Table}(ht:(aG l p)[(aG l p).length-1]?=some t):t.id=nY p:=by
 rw[u9 hs];rw[cB,Nat.add_sub_cancel] at ht;unfold aG at ht;obtain⟨n,hn⟩:∃n,p.steps.length=n+1:=⟨p.steps.length-1,by omega⟩
 rw[hn,List.getElem?_cons_succ,List.getElem?_map,List.getElem?_eq_getElem (by omega)] at ht;simp only[Option.map_some,Option.some.injEq] at ht;subst ht;have h2:=(o9 h).2 _ (List.getElem_mem (show n<p.steps.length by omega));rw[h2];congr 1;simp[hn]
theorem EL{l:List Table}{p:Pth}{q:Table}{cs:List Rf}(h:sJ l ⟨p,[],cs⟩=0):dz (nV l ⟨p,[],cs⟩).1 q=dz (e9 l p cs) q∧eQ (nV l ⟨p,[],cs⟩).1∧ab (nV l ⟨p,[],cs⟩).1≤(a6 l p).length:=by
 have e:(nV l ⟨p,[],cs⟩).1=mU l ⟨p,[],cs⟩:=by unfold nV;rw[if_pos h]
 rw[e];have hc:=p7 l p cs;have hr:ab (mU l ⟨p,[],cs⟩)=ab (e9 l p cs):=by
  have key:∀t:Table,ab t=((t.cols.map Column.cells).getD 0 []).length:=fun t=>by
   unfold ab;rw[List.getD_eq_getElem?_getD,List.getElem?_map];cases t.cols with
   |nil=>rfl
   |cons a b=>rfl
  rw[key,key,hc]
 refine⟨yp l p cs q,fun c hcm=>?_,?_⟩
 ·have h1:c.cells∈(e9 l p cs).cols.map Column.cells:=by rw[←hc];exact List.mem_map_of_mem hcm
  obtain⟨d,hd,he⟩:=List.mem_map.1 h1;rw[hr,←he];exact sR l p cs d hd
 ·rw[hr];exact mW l p cs
end Go.Sx.Sp
