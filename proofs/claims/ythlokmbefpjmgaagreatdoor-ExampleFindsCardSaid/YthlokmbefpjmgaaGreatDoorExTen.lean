/- The law of the examples that are found. -/
import Derived.Test.YthlokmbefpjmgaaGreatDoorExNine
import Derived.Test.YthlokmbefpjmgaaGreatDoorRtSix
import Derived.Test.YthlokmbefpjmgaaGreatDoorSxFive
import Derived.Test.YthlokmbefpjmgaaGreatDoorSxFour
set_option linter.unusedVariables false
set_option linter.unusedSimpArgs false
set_option maxHeartbeats 16000000
namespace Go.Sx.Sp
open Go Go.Sx Go.Proofs Go.Sort
attribute [local irreducible] aO famL
def jF(l:List Int)(L:List Table)(q:Nat):Cell×Nat:=
 if 0<dw l (aM l q) 4 then
  (ay (L.getD (dw l q L.length).toNat Table.zero) (dw l (aM l (aM l q)) (L.getD (dw l q L.length).toNat Table.zero).cols.length).toNat (dw l (aM l (aM l (aM l q))) (ab (L.getD (dw l q L.length).toNat Table.zero))).toNat,aM l (aM l (aM l (aM l q))))
 else(⟨true,[]⟩,aM l (aM l q))
def colQ(l:List Int)(L:List Table)(R q:Nat):Column×Nat:=(⟨[],(seqF (fun _ q=>jF l L q) (1+R) 0 q).1⟩,(seqF (fun _ q=>jF l L q) (1+R) 0 q).2)
def mX(l:List Int)(L:List Table)(n p:Nat):List Column×Nat:=seqF (fun _ q=>colQ l L (dw l p 2).toNat q) n 0 (aM l p)
theorem yM{l:List Int}{L:List Table}{q:Nat}(hq:q≤l.length):(jF l L q).2≤l.length:=by
 unfold jF;split
 ·exact bC (bC (bC (bC hq)))
 ·exact bC (bC hq)
theorem A8{l:List Int}{L:List Table}{R q:Nat}(hq:q≤l.length):(colQ l L R q).2≤l.length:=
 (lF (step:=fun _ q=>jF l L q) (Q:=fun _ _=>True) (fun i q hq=>⟨trivial,yM hq⟩) (1+R) 0 q hq).2
theorem CX{l:List Int}{L:List Table}{n p:Nat}(hp:p≤l.length):(mX l L n p).2≤l.length:=
 (lF (step:=fun _ q=>colQ l L (dw l p 2).toNat q) (Q:=fun _ _=>True) (fun i q hq=>⟨trivial,A8 hq⟩) n 0 _ (bC hp)).2
structure GoodQ (t:Table):Prop where
 cols:1≤t.cols.length∧t.cols.length≤100
 rows:1≤ab t∧ab t≤100
 rect:eQ t
theorem mg(l:List Int)(L:List Table)(n p:Nat)(hp:p≤l.length)(hn:n≤100)(hL:1≤L.length∧L.length≤100)(hg:∀t∈L,GoodQ t):Spec Tryz.prog 12 [.bp 0 0,.osl 1 0 0 (aa L).length (aa L).length,.int .i64 (n:Nat)] [(0,ed l p),(1,.rows 3 (aa L) (some []))] (.agg (Table.row ⟨0,[],(mX l L n p).1⟩)) [(0,ed l (mX l L n p).2),(1,.rows 3 (aa L) (some []))]:=by
 have sp0:=dl l p 2 (by omega) hp;have hr:=bR l p (n:=2) (by omega);have hp1:=bC hp;have hres:mX l L n p=seqF (fun _ q=>colQ l L (dw l p 2).toNat q) n 0 (aM l p):=rfl;obtain⟨R,hR⟩:=Int.eq_ofNat_of_zero_le hr.1;rw[hR] at sp0 hr hres;rw[Int.toNat_natCast] at hres;generalize aM l p=p1 at *;generalize mX l L n p=res at *;have hLl:=aP L;refine gEn env Tryz.func12 fun Γ hN hK hML=>?_;refine gGo ?_;(refine⟨_,_,_,cW [(0,0)] [] [] rfl rfl rfl (by kernel_rfl) (sp0) (by repeat' (first|exact trivial|exact Lent.refl _|exact Lent.norm _|exact Lent.whole rfl rfl (by first|rfl|exact List.length_append.symm|exact hlenR|simp) rfl (by first|exact .inl rfl|exact .inr rfl)|apply And.intro)) rfl ⟨rfl,rfl,rfl,rfl,rfl,by repeat' (first|exact trivial|rfl|apply And.intro),rfl,rfl⟩,?_⟩;conv=>whnf)
 refine gGo ?_;refine W.ownCell 7 0 2 91 2 rfl rfl rfl rfl rfl ?_;refine W.loopG (fun m st=>∃(j q:Nat) (cs:List Column),j≤n∧q≤l.length∧cs.length=j∧res=(cs++(seqF (fun _ q=>colQ l L R q) (n-j) j q).1,(seqF (fun _ q=>colQ l L R q) (n-j) j q).2)∧m=n-j∧st=⟨[(0,.bp 0 0),(1,.osl 1 0 0 (aa L).length (aa L).length),(6,.bp 6 0),(7,.bp 7 0),(8,.int .i64 (1+(R:Int))),(16,.int .i64 (n:Nat)),(17,.int .i64 (j:Nat))],[(0,[ed l q]),(1,[.rows 3 (aa L) (some [])]),(6,[.rows 3 [[.int .i64 0,.str [],.nils]] none]),(7,[.rows 3 [[.int .i64 0,.str [],.osl 91 0 0 (ai cs).length (ai cs).length]] none]),(91,[.rows 2 (ai cs) (some [])])],[0,1,6,7,91]⟩)
  n _ ⟨0,p1,[],by omega,hp1,rfl,hres,by omega,rfl⟩ gX ?_
 clear hres hp1 sp0;rintro m st ⟨j,q,cs,hj,hq,hcs,hce,rfl,rfl⟩;have hcl:=aB cs;refine gT (fun hb=>?_) fun hb=>?_
 ·have hjl:j<n:=by omega
  have hcd:colQ l L R q=(⟨[],(seqF (fun _ q=>jF l L q) (1+R) 0 q).1⟩,(seqF (fun _ q=>jF l L q) (1+R) 0 q).2):=rfl;have hcok:=A8 (l:=l) (L:=L) (R:=R) hq;rw[show n-j=(n-(j+1))+1 by omega] at hce;simp only[seqF] at hce;generalize hX:seqF (fun _ q=>jF l L q) (1+R) 0 q=X at hcd;rw[hcd] at hce hcok;clear hcd;refine gGo ?_;refine W.ownCell 9 0 1 92 2 rfl rfl rfl rfl rfl ?_;refine W.loopG (fun m st=>∃(i q:Nat) (xs:List Cell),i≤1+R∧q≤l.length∧xs.length=i∧X=(xs++(seqF (fun _ q=>jF l L q) (1+R-i) i q).1,(seqF (fun _ q=>jF l L q) (1+R-i) i q).2)∧m=1+R-i∧st=⟨[(0,.bp 0 0),(1,.osl 1 0 0 (aa L).length (aa L).length),(6,.bp 6 0),(7,.bp 7 0),(8,.int .i64 (1+(R:Int))),(16,.int .i64 (n:Nat)),(17,.int .i64 (j:Nat)),(9,.bp 9 0),(20,.int .i64 (1+(R:Int))),(21,.int .i64 (i:Nat))],[(0,[ed l q]),(1,[.rows 3 (aa L) (some [])]),(6,[.rows 3 [[.int .i64 0,.str [],.nils]] none]),(7,[.rows 3 [[.int .i64 0,.str [],.osl 91 0 0 (ai cs).length (ai cs).length]] none]),(91,[.rows 2 (ai cs) (some [])]),(9,[.rows 2 [[.str [],.osl 92 0 0 (aj xs).length (aj xs).length]] none]),(92,[.rows 2 (aj xs) (some [])])],[0,1,6,7,91,9,92]⟩)
   (1+R) _ ⟨0,q,[],by omega,hq,rfl,hX.symm,by omega,rfl⟩ gX ?_
  clear hX hq;rintro m st ⟨i,q,xs,hi,hq,hxs,hxe,rfl,rfl⟩;have hxl:=aF xs;refine gT (fun hb=>?_) fun hb=>?_
  ·have hil:i<1+R:=by omega
   have hq1:=bC hq;have hq2:=bC hq1;have hq3:=bC hq2;have sp1:=dl l q (L.length:Nat) (by omega) hq;have hr1:=bR l q (n:=(L.length:Nat)) (by omega);have sp2:=dl l (aM l q) 4 (by omega) hq1;have hcellok:=yM (l:=l) (L:=L) hq;rw[show 1+R-i=(1+R-(i+1))+1 by omega] at hxe;simp only[seqF] at hxe;obtain⟨a,ha⟩:=Int.eq_ofNat_of_zero_le hr1.1;have hc0:jF l L q=jF l L q:=rfl
   conv at hc0=>rhs;unfold jF
   rw[ha] at sp1 hr1 hc0;rw[Int.toNat_natCast] at hc0;have hal:a<L.length:=by omega
   have htg:=bi hal;have hgt:=hg _ (List.getElem_mem hal);rw[show L.getD a Table.zero=L[a] by simp[List.getD_eq_getElem?_getD,hal]] at hc0;generalize L[a]=t at *;obtain⟨⟨g1,g2⟩,⟨g3,g4⟩,g5⟩:=hgt;have spR:=dP t;have hkl:=aB t.cols;rw[←hLl] at sp1;refine gGo ?_;intros;(refine⟨_,_,_,cW [(0,0)] [] [] rfl rfl rfl (by kernel_rfl) (sp1) (by repeat' (first|exact trivial|exact Lent.refl _|exact Lent.norm _|exact Lent.whole rfl rfl (by first|rfl|exact List.length_append.symm|exact hlenR|simp) rfl (by first|exact .inl rfl|exact .inr rfl)|apply And.intro)) rfl ⟨rfl,rfl,rfl,rfl,rfl,by repeat' (first|exact trivial|rfl|apply And.intro),rfl,rfl⟩,?_⟩;conv=>whnf)
   (refine g ?_;intros);(refine⟨_,_,_,cW [(0,0)] [] [] rfl rfl rfl (by kernel_rfl) (sp2) (by repeat' (first|exact trivial|exact Lent.refl _|exact Lent.norm _|exact Lent.whole rfl rfl (by first|rfl|exact List.length_append.symm|exact hlenR|simp) rfl (by first|exact .inl rfl|exact .inr rfl)|apply And.intro)) rfl ⟨rfl,rfl,rfl,rfl,rfl,by repeat' (first|exact trivial|rfl|apply And.intro),rfl,rfl⟩,?_⟩;conv=>whnf)
   refine gT (fun hb=>?_) fun hb=>?_
   ·rw[if_pos hb] at hc0;have hr3:=bR l (aM l (aM l q)) (n:=(t.cols.length:Nat)) (by omega);have sp3:=dl l (aM l (aM l q)) (t.cols.length:Nat) (by omega) hq2;have hr4:=bR l (aM l (aM l (aM l q))) (n:=(ab t:Nat)) (by omega);have sp4:=dl l (aM l (aM l (aM l q))) (ab t:Nat) (by omega) hq3;obtain⟨b,hb3⟩:=Int.eq_ofNat_of_zero_le hr3.1;obtain⟨c,hb4⟩:=Int.eq_ofNat_of_zero_le hr4.1;rw[hb3] at sp3 hr3 hc0;rw[hb4] at sp4 hr4 hc0;rw[Int.toNat_natCast,Int.toNat_natCast] at hc0;have hbl:b<t.cols.length:=by omega
    have hcl5:c<ab t:=by omega
    obtain⟨hx1,hx2⟩:=jE g5 hbl hcl5;have hcg:=aW hbl;rw[←hkl] at sp3;rw[hc0] at hxe hcellok;generalize ay t b c=x at *;generalize t.cols[b]=cc at *;refine gGo ?_;intros;(refine⟨_,_,_,cW [(0,0)] [] [] rfl rfl rfl (by kernel_rfl) (sp3) (by repeat' (first|exact trivial|exact Lent.refl _|exact Lent.norm _|exact Lent.whole rfl rfl (by first|rfl|exact List.length_append.symm|exact hlenR|simp) rfl (by first|exact .inl rfl|exact .inr rfl)|apply And.intro)) rfl ⟨rfl,rfl,rfl,rfl,rfl,by repeat' (first|exact trivial|rfl|apply And.intro),rfl,rfl⟩,?_⟩;conv=>whnf)
    refine g ?_;(refine⟨_,_,_,cW [(0,0)] [] [] rfl rfl rfl (by kernel_rfl) (sp4) (by repeat' (first|exact trivial|exact Lent.refl _|exact Lent.norm _|exact Lent.whole rfl rfl (by first|rfl|exact List.length_append.symm|exact hlenR|simp) rfl (by first|exact .inl rfl|exact .inr rfl)|apply And.intro)) rfl ⟨rfl,rfl,rfl,rfl,rfl,by repeat' (first|exact trivial|rfl|apply And.intro),rfl,rfl⟩,?_⟩;conv=>whnf)
    refine g ?_;refine⟨⟨ao rfl au,rfl⟩,bc (n:=(aj xs).length+1) (b:=24) (by omega) (by omega),.inl ⟨rfl,rfl,?_⟩⟩;(conv=>whnf);refine gGo ?_;refine⟨_,_,?_,⟨i+1,_,xs++[_],by omega,hcellok,by simp;omega,(by rw[hxe,List.append_cons]),rfl,rfl⟩,[(0,0),(1,1),(6,6),(7,7),(91,91),(9,9),(92,92)],[],[],LeG.mq (.ci 0 (.ci 1 (.ci 6 (.ci 7 (.ci 91 (.cons 9 rfl rfl (.refl _) ?_ (.cons 92 rfl rfl (.refl _) ?_ .nil)))))))⟩
    ·omega
    ·rw[cG,List.length_append];rfl
    ·rw[cG];rfl
   ·rw[if_neg hb] at hc0;rw[hc0] at hxe hcellok;refine gGo ?_;refine⟨⟨ao rfl au,rfl⟩,bc (n:=(aj xs).length+1) (b:=24) (by omega) (by omega),.inl ⟨rfl,rfl,?_⟩⟩;(conv=>whnf);refine gGo ?_;refine⟨_,_,?_,⟨i+1,_,xs++[_],by omega,hcellok,by simp;omega,(by rw[hxe,List.append_cons]),rfl,rfl⟩,[(0,0),(1,1),(6,6),(7,7),(91,91),(9,9),(92,92)],[],[],LeG.mq (.ci 0 (.ci 1 (.ci 6 (.ci 7 (.ci 91 (.cons 9 rfl rfl (.refl _) ?_ (.cons 92 rfl rfl (.refl _) ?_ .nil)))))))⟩
    ·omega
    ·rw[cG,List.length_append];rfl
    ·rw[cG];rfl
  ·have hie:i=1+R:=by omega
   rw[hie,Nat.sub_self] at hxe;simp only[seqF,List.append_nil] at hxe;rw[hxe] at hce hcok;clear hxe;refine W.leG (mp:=[(0,0),(1,1),(6,6),(7,7),(91,91),(9,9)]) (bo:=[92]) (st':=⟨[(0,.bp 0 0),(1,.osl 1 0 0 (aa L).length (aa L).length),(6,.bp 6 0),(7,.bp 7 0),(8,.int .i64 (1+(R:Int))),(16,.int .i64 (n:Nat)),(17,.int .i64 (j:Nat)),(9,.bp 9 0),(22,.bool false)],[(0,[ed l q]),(1,[.rows 3 (aa L) (some [])]),(6,[.rows 3 [[.int .i64 0,.str [],.nils]] none]),(7,[.rows 3 [[.int .i64 0,.str [],.osl 91 0 0 (ai cs).length (ai cs).length]] none]),(91,[.rows 2 (ai cs) (some [])]),(9,[.rows 2 [Column.row ⟨[],xs⟩] none])],[0,1,6,7,91,9]⟩)
    (LeG.mq (.ci 0 (.ci 1 (.ci 6 (.ci 7 (.ci 91 (.cons 9 (b1:=.rows 2 [Column.row ⟨[],xs⟩] none) rfl rfl (.rows _ _ _ (by repeat' (first|exact trivial|exact⟨Lent.refl _,rfl⟩|exact⟨Lent.norm _,rfl⟩|exact⟨Lent.whole rfl rfl (by first|rfl|exact List.length_append.symm|exact hlenR|simp) rfl (by first|exact .inl rfl|exact .inr rfl),rfl⟩|apply And.intro))) rfl .nil))))))) ?_
   refine gGo ?_;refine⟨⟨ao rfl au,rfl⟩,bc (n:=(ai cs).length+1) (b:=40) (by omega) (by omega),.inl ⟨rfl,rfl,?_⟩⟩;(conv=>whnf);refine gGo ?_;refine⟨_,_,?_,⟨j+1,_,cs++[_],by omega,hcok,by simp;omega,(by rw[hce,List.append_cons]),rfl,rfl⟩,[(0,0),(1,1),(6,6),(7,7),(91,91)],[],[],LeG.mq (.ci 0 (.ci 1 (.ci 6 (.cons 7 rfl rfl (.refl _) ?_ (.cons 91 rfl rfl (.refl _) ?_ .nil)))))⟩
   ·omega
   ·rw[dD,List.length_append];rfl
   ·rw[dD];rfl
 ·have hje:j=n:=by omega
  rw[hje,Nat.sub_self] at hce;simp only[seqF,List.append_nil] at hce;rw[hce];clear hce;refine W.leG (mp:=[(0,0),(1,1),(6,6),(7,7)]) (bo:=[91]) (st':=⟨[(6,.bp 6 0),(7,.bp 7 0),(18,.bool false)],[(0,[ed l q]),(1,[.rows 3 (aa L) (some [])]),(6,[.rows 3 [[.int .i64 0,.str [],.nils]] none]),(7,[.rows 3 [Table.row ⟨0,[],cs⟩] none])],[0,1,6,7]⟩)
   (LeG.mq (.ci 0 (.ci 1 (.ci 6 (.cons 7 (b1:=.rows 3 [Table.row ⟨0,[],cs⟩] none) rfl rfl (.rows _ _ _ (by repeat' (first|exact trivial|exact⟨Lent.refl _,rfl⟩|exact⟨Lent.norm _,rfl⟩|exact⟨Lent.whole rfl rfl (by first|rfl|exact List.length_append.symm|exact hlenR|simp) rfl (by first|exact .inl rfl|exact .inr rfl),rfl⟩|apply And.intro))) rfl .nil))))) ?_
  refine gGo ?_;(refine gM ?_;conv=>whnf);exact retH rfl (.refl _) rfl rfl rfl ⟨rfl,rfl,rfl,rfl,trivial⟩
def colA:Column:=⟨[],[⟨false,[80,97,114,105,115]⟩,⟨false,[66,111,110,110]⟩]⟩
def tabA:List Table:=[⟨1,[],[colA,colA]⟩]
def qA:Table:=⟨0,[],[⟨[],[⟨false,[80,97,114,105,115]⟩]⟩]⟩
def fA(c:Int):Fnd:=⟨⟨1,[]⟩,[⟨1,c⟩],2⟩
theorem Fl:exE qA=0:=by decide
theorem A9:bO tabA=true:=by decide
theorem Fm:bK tabA [] 2=([⟨1,[]⟩],0):=by
 have hc:ew tabA [] (2:Int).toNat=[⟨1,[]⟩]:=by decide
 unfold bK;rw[if_pos A9,if_pos (by decide),hc,if_pos (by decide),←lS dp];rfl
theorem Fo:cP tabA qA ⟨1,[]⟩=[fA 0,fA 1]:=by decide
theorem Au:nZ tabA [] qA 2 9=([fA 0,fA 1],0):=by
 unfold nZ;rw[if_pos (by decide),if_pos Fl,Fm,if_pos rfl];simp only[List.flatMap_cons,List.flatMap_nil,List.append_nil];rw[Fo,←lS ln];rfl
theorem Fp(a b:Fnd):Spec Tryz.prog 24 [.agg a.row,.agg b.row] [] (.int .i64 (fndC a b)) []:=Spec.ofQuiet (vb a b) fun u hu=>by
 simp at hu;rcases hu with rfl|rfl<;>simp[V.sites,a7,Fnd.row]
theorem EM{N:NB}{o:Oper}{h:Nat→List Blk}{ρ:Operand→V}{t':Nat}{x y:Operand}(hop:o.op=.binOp .eql 67 x y t')(c d:Rf)(hx:ρ x=.agg c.row)(hy:ρ y=.agg d.row)(hd:dL N o.dst=true):aO Tryz.prog N o ρ h (.bool (decide (c=d))) [] []:=by
 have h1:=oD (P:=Tryz.prog) (N:=N) (h:=h) (ρ:=ρ) (op:=.eql) hop (.inl rfl) (by kernel_rfl)
  (fun l l' w a b=>EqI.equal (n:=2) (d:=10000) (qv (d:=9999) (n0:=1) (n1:=1) Tryz.underlying67 (by kernel_rfl) (by kernel_rfl) (by kernel_rfl) rfl rfl Tryz.isAgg67 Tryz.sizeOf67 (lx Tryz.underlying3) (lx Tryz.underlying3)) rfl Tryz.isAgg67 Tryz.sizeOf67 a b w) (l:=[c.t,c.c]) (l':=[d.t,d.c]) rfl rfl hx hy
 have e:decide (c=d)=decide ([c.t,c.c]=[d.t,d.c]):=decide_eq_decide.2 (EK c d).symm;rw[e];exact h1.toW hd
theorem wk:Spec Tryz.prog 8 [] [] (.bool true) []:=by
 have sp:=qf tabA [] qA 2 9 (kU A9) (fun r hr=>by cases hr) (by decide);rw[Au] at sp;have spC:=Fp (fA 0) (fA 1);rw[show fndC (fA 0) (fA 1)=-1 by decide] at spC;refine gEn env Tryz.func8 fun Γ hN hK hML=>?_;refine gGo ?_;refine⟨⟨by decide,by decide,by decide⟩,ao rfl (ao rfl au),?_⟩;(conv=>whnf);(refine g ?_;intros);refine⟨_,_,_,EM rfl ⟨1,0⟩ ⟨1,0⟩ rfl rfl (by kernel_rfl),?_⟩;rw[decide_eq_true rfl];(conv=>whnf);exact gR
def rowP(p:Pth):List V:=[.int .i64 p.start,.sl (ae p.steps) false,.nils,.nils,.int .i64 0]
theorem wl(p:Pth):Spec Tryz.prog 19 [.sl [rowP p] false,.sl [rowP p] false] [] (.bool true) []:=by
 have sp:=qg ⟨p,[],0⟩ ⟨p,[],0⟩;rw[decide_eq_true ⟨rfl,rfl⟩] at sp;refine gEn env Tryz.func19 fun Γ hN hK hML=>?_;refine gGo ?_;intros;refine W.loopG (fun n st=>∃k:Nat,k≤1∧n=1-k∧st=⟨[(1,.sl [rowP p] false),(12,.sl [rowP p] false),(13,.int .i64 1),(14,.int .i64 (k:Nat))],[],[]⟩)
  1 _ ⟨0,by omega,by omega,rfl⟩ gX ?_
 rintro n st ⟨k,hk,rfl,rfl⟩;refine gT (fun hb=>?_) fun hb=>?_
 ·have hk0:k=0:=by omega
  subst hk0;refine g ?_;exact gZ ⟨0+1,by omega,rfl,rfl⟩
 ·exact gR
theorem yN(t:List Int)(q0:Table)(steps k w:Int):Spec Tryz.prog 3 [.sl (aq .i64 t) false,.agg q0.row,.int .i64 steps,.int .i64 k,.int .i64 w] [] (.bool true) []:=by
 have hl:=bu .i64 t;have spL:=zk t;have spA:=wk;have hcl:=aB q0.cols;have spM1:=kR steps 4 (by decide);have rM1:=jX (n:=steps) (m:=4);have spM2:=kR w 7 (by decide);have spM3:=kR k 5 (by decide);have rM3:=jX (n:=k) (m:=5);have spM4:=kR k 9 (by decide);by_cases hll:t.length≤500
 ·rw[decide_eq_true hll] at spL;by_cases hq5:q0.cols.length≤5
  ·obtain⟨⟨j1,j2⟩,j3,j4⟩:=BJ (l:=t) (most:=3) (p:=0) (by omega) (Nat.zero_le _);have spJ:=zV t 3 0 (by omega) (Nat.zero_le _);generalize (dK t 3 0).1=L at *;generalize (dK t 3 0).2=p at *;have j2:L.length≤3:=j2;have hlist:=EU j3 (by omega);have hsm:=kU hlist;have spE:=Cn L hlist (by omega);have hE11:=DN L;have hEf:=Co (l:=L) (fun b hb=>by obtain⟨k,hk,rfl⟩:=List.getElem_of_mem hb;exact(j3 k hk).few.2) (by omega);generalize k6 L=E at *;have hEl:=eK E;have hLl:=aP L;have hgq:∀t∈L,GoodQ t:=fun b hb=>by
    obtain⟨k,hk,rfl⟩:=List.getElem_of_mem hb;obtain⟨n,n1,n2,n3⟩:=(j3 k hk).cols;have h1:=(j3 k hk).few;have h2:ab L[k]=n:=by
     unfold ab;cases hc:(L[k]).cols with
     |nil=>rw[hc] at h1;simp at h1
     |cons c cs=>exact(n3 c (by rw[hc];exact List.mem_cons_self)).len
    exact⟨by omega,by omega,fun c hc=>by rw[h2];exact(n3 c hc).len⟩
   have hp1:=bC j4;have spD:=dl t p 2 (by omega) j4;have rD:=bR t p (n:=2) (by omega);obtain⟨N,hN0⟩:=Int.eq_ofNat_of_zero_le rD.1;rw[hN0] at spD rD;have spQ:=mg t L (1+N) (aM t p) hp1 (by omega) (by omega) hgq;have hp2:=CX (L:=L) (n:=1+N) hp1;rw[show((1+N:Nat):Int)=1+(N:Int) by omega] at spQ;generalize hQ:mX t L (1+N) (aM t p)=Q at *;obtain⟨Q,p2⟩:=Q;simp only at spQ hp2;generalize aM t p=p1 at *;obtain⟨M,hM⟩:=Int.eq_ofNat_of_zero_le rM3.1;rw[hM] at spM3 rM3;have spQ2:=mg t L M p2 hp2 (by omega) (by omega) hgq;generalize mX t L M p2=Q2 at *;obtain⟨Q2,p3⟩:=Q2;simp only at spQ2;obtain⟨x,hx⟩:∃x,L[0]?=some x:=⟨L[0],List.getElem?_eq_getElem (by omega)⟩
   have hx0:(aa L)[0]?=some x.row:=by unfold aa;rw[List.getElem?_map,hx];rfl
   clear hQ;refine gEn env Tryz.func3 fun Γ hN hK hML=>?_;(refine g ?_;intros);refine W.loopG (fun n st=>∃i:Nat,i≤q0.cols.length∧n=q0.cols.length-i∧st=⟨[(0,.sl (aq .i64 t) false),(2,.int .i64 steps),(3,.int .i64 k),(4,.int .i64 w),(6,.bp 6 0),(41,.sl (ai q0.cols) false),(42,.int .i64 (ai q0.cols).length),(43,.int .i64 (i:Nat))],[(6,[.rows 3 [q0.row] none])],[6]⟩)
    q0.cols.length _ ⟨0,by omega,by omega,rfl⟩ gX ?_
   rintro n st ⟨i,hi,rfl,rfl⟩;refine gT (fun hb=>?_) fun hb=>?_
   ·have hil:i<q0.cols.length:=by omega
    have hcg:=aW hil;generalize q0.cols[i]=c at *;have hcel:=aF c.cells;by_cases hc3:c.cells.length≤3
    ·(refine g ?_;intros);exact gZ ⟨i+1,by omega,rfl,rfl⟩
    ·exact gR
   ·refine gGo ?_;(refine gCA [] [(5,70)] [] (Bq t) ?_;conv=>whnf);refine gGo ?_;(refine gCA [(0,70)] [(90,80)] [] (spJ) ?_;conv=>whnf);refine gGo ?_;refine⟨_,_,_,cW [] [(90,81)] [80] rfl rfl rfl (by kernel_rfl) spE ⟨Lent.whole rfl rfl rfl rfl (.inl rfl),trivial⟩ rfl ⟨rfl,rfl,rfl,rfl,rfl,by repeat' (first|exact trivial|rfl|apply And.intro),rfl,(by show(true&&((Blk.rows 11 (aA E) (some [])).flatB&&true))=true;rw[Bool.true_and,Bool.and_true];exact Eg E)⟩,?_⟩;(conv=>whnf);refine gGo ?_;(refine⟨_,_,_,cW [(0,70)] [] [] rfl rfl rfl (by kernel_rfl) (spD) (by repeat' (first|exact trivial|exact Lent.refl _|exact Lent.norm _|exact Lent.whole rfl rfl (by first|rfl|exact List.length_append.symm|exact hlenR|simp) rfl (by first|exact .inl rfl|exact .inr rfl)|apply And.intro)) rfl ⟨rfl,rfl,rfl,rfl,rfl,by repeat' (first|exact trivial|rfl|apply And.intro),rfl,rfl⟩,?_⟩;conv=>whnf)
    refine gGo ?_;(refine gCA [(0,70),(1,80)] [] [] (spQ) ?_;conv=>whnf);refine gGo ?_;(refine gPC (spM1) ?_;conv=>whnf);refine gGs ?_;refine W.leG (mp:=[(6,6),(70,70),(80,80),(16,16)]) (bo:=[81]) (st':=⟨[(2,.int .i64 steps),(3,.int .i64 k),(4,.int .i64 w),(6,.bp 6 0),(13,.bp 70 0),(14,.osl 80 0 0 (aa L).length (aa L).length),(15,.sl (aA E) false),(16,.bp 16 0),(17,.int .i64 (modK steps 4-1))],[(6,[.rows 3 [q0.row] none]),(70,[ed t p2]),(80,[.rows 3 (aa L) (some [])]),(16,[.rows 3 [Table.row ⟨0,[],Q⟩] none])],[6,70,80,16]⟩)
     (LeG.mk' rfl rfl rfl (by repeat' (first|exact trivial|exact⟨_,.refl _,rfl⟩|exact⟨_,Lent.whole rfl rfl (by first|rfl|simp) rfl (.inl rfl),rfl⟩|apply And.intro)) (.ci 6 (.ci 70 (.ci 80 (.ci 16 .nil)))) rfl rfl (by rw[hK];rfl)) ?_
    clear spJ spE spD spQ spM1 spL;refine W.cut (fun z=>∃(L:List Table) (q:Table) (s:Int),(∀t∈L,j5 t)∧z=⟨[(3,.int .i64 k),(14,.sl (aa L) false),(15,.sl (aA E) false),(16,.bp 16 0),(17,.int .i64 s)],[(16,[.rows 3 [q.row] none])],[16]⟩) ?_ ?_
    ·refine gGo ?_;(refine gPC (spM2) ?_;conv=>whnf);generalize modK w 7=m at *;by_cases m0:m=0
     ·subst m0;refine gGo ?_;exact⟨_,⟨L,q0,modK steps 4-1,hsm,rfl⟩,Ref.le (mp:=[(16,16)]) (bo:=[80]) (gs:=[]) (LeG.mk' rfl rfl rfl (by repeat' (first|exact trivial|exact⟨_,.refl _,rfl⟩|exact⟨_,Lent.whole rfl rfl (by first|rfl|simp) rfl (.inl rfl),rfl⟩|apply And.intro)) (.ci 16 .nil) rfl rfl (by rw[hK];rfl))⟩
     by_cases m1:m=1
     ·subst m1;refine gGo ?_;(refine gPC (spM3) ?_;conv=>whnf);refine gGo ?_;(refine gCA [(0,70),(1,80)] [] [] (spQ2) ?_;conv=>whnf);refine gGo ?_;exact⟨_,⟨L,⟨0,[],Q2⟩,modK steps 4-1,hsm,rfl⟩,Ref.le (mp:=[(16,16)]) (bo:=[80]) (gs:=[]) (LeG.mk' rfl rfl rfl (by repeat' (first|exact trivial|exact⟨_,.refl _,rfl⟩|exact⟨_,Lent.whole rfl rfl (by first|rfl|simp) rfl (.inl rfl),rfl⟩|apply And.intro)) (.ci 16 .nil) rfl rfl (by rw[hK];rfl))⟩
     by_cases m2:m=2
     ·subst m2;have hLx:∀t∈L++[x],j5 t:=fun t ht=>by
       rcases List.mem_append.1 ht with h|h
       ·exact hsm t h
       ·rw[List.mem_singleton] at h;rw[h];exact hsm x (List.mem_of_getElem? hx)
      have hLL:aa (L++[x])=aa L++[x.row]:=by simp[aa]
      refine gGo ?_;refine al (by simpa using hx0) ?_;(conv=>whnf);refine gGo ?_;refine⟨⟨ao rfl au,rfl⟩,bc (n:=(aa L).length+1) (b:=48) (by omega) (by omega),.inl ⟨rfl,rfl,?_⟩⟩;(conv=>whnf);refine gGo ?_;refine⟨_,⟨L++[x],⟨0,[],Q⟩,modK steps 4-1,hLx,rfl⟩,?_⟩;rw[hLL];exact Ref.le (mp:=[(16,16)]) (bo:=[80]) (gs:=[]) (LeG.mk' rfl rfl rfl (by repeat' (first|exact trivial|exact⟨_,.refl _,rfl⟩|exact⟨_,Lent.whole rfl rfl (by first|rfl|simp) rfl (.inl rfl),rfl⟩|apply And.intro)) (.ci 16 .nil) rfl rfl (by rw[hK];rfl))
     by_cases m3:m=3
     ·subst m3;refine gGo ?_;exact⟨_,⟨L,⟨0,[],Q⟩,steps,hsm,rfl⟩,Ref.le (mp:=[(16,16)]) (bo:=[80]) (gs:=[]) (LeG.mk' rfl rfl rfl (by repeat' (first|exact trivial|exact⟨_,.refl _,rfl⟩|exact⟨_,Lent.whole rfl rfl (by first|rfl|simp) rfl (.inl rfl),rfl⟩|apply And.intro)) (.ci 16 .nil) rfl rfl (by rw[hK];rfl))⟩
     ·refine gGo ?_;exact⟨_,⟨L,⟨0,[],Q⟩,modK steps 4-1,hsm,rfl⟩,Ref.le (mp:=[(16,16)]) (bo:=[80]) (gs:=[]) (LeG.mk' rfl rfl rfl (by repeat' (first|exact trivial|exact⟨_,.refl _,rfl⟩|exact⟨_,Lent.whole rfl rfl (by first|rfl|simp) rfl (.inl rfl),rfl⟩|apply And.intro)) (.ci 16 .nil) rfl rfl (by rw[hK];rfl))⟩
    ·rintro z ⟨L,q,s,hsm,rfl⟩;have hqc:=aB q.cols;refine W.cut (fun z=>∃(s:Int),z=⟨[(3,.int .i64 k),(14,.sl (aa L) false),(15,.sl (aA E) false),(16,.bp 16 0),(17,.int .i64 s)],[(16,[.rows 3 [q.row] none])],[16]⟩) ?_ ?_
     ·by_cases hq2:q.cols.length≤2
      ·refine gGo ?_;intros;exact⟨_,⟨s,rfl⟩,gY⟩
      ·refine gGo ?_;intros;exact⟨_,⟨min s 0,rfl⟩,gY⟩
     ·rintro z ⟨s,rfl⟩;have spP:=n9 L E s hsm hE11 (by omega);have spP2:=lk L E s hE11 (by omega);have spV:=n8 q;have spV2:=lj q;generalize bK L E s=pe at *;obtain⟨ps,e⟩:=pe;simp only at spP spP2;generalize exE q=ee at *;have hpr:=ba ps;(refine g ?_;intros);refine W.loopG (fun n st=>∃i:Nat,i≤ps.length∧n=ps.length-i∧st=⟨[(3,.int .i64 k),(14,.sl (aa L) false),(15,.sl (aA E) false),(16,.bp 16 0),(17,.int .i64 s),(20,.sl (ah ps) false),(128,.sl (ah ps) false),(129,.int .i64 (ah ps).length),(130,.int .i64 (i:Nat))],[(16,[.rows 3 [q.row] none])],[16]⟩)
       ps.length _ ⟨0,by omega,by omega,rfl⟩ gX ?_
      rintro n st ⟨i,hi,rfl,rfl⟩;refine gT (fun hb=>?_) fun hb=>?_
      ·have hil:i<ps.length:=by omega
       have hpg:=fU hil;generalize ps[i]=pt at *;have spS:=wl pt;refine g ?_;exact gZ ⟨i+1,by omega,rfl,rfl⟩
      ·refine gGo ?_;(refine gPC (spM4) ?_;conv=>whnf);refine gGo ?_;intros;refine W.loopG (fun n st=>∃i:Nat,i≤2∧n=2-i∧st=⟨[(3,.int .i64 k),(14,.sl (aa L) false),(15,.sl (aA E) false),(16,.bp 16 0),(17,.int .i64 s),(152,.sl ([[V.int .i64 k],[V.int .i64 (modK k 9)]]:List (List V)) false),(153,.int .i64 2),(154,.int .i64 (i:Nat))],[(16,[.rows 3 [q.row] none])],[16]⟩)
        2 _ ⟨0,by omega,by omega,rfl⟩ gX ?_
       rintro n st ⟨i,hi,rfl,rfl⟩;refine gT (fun hb=>?_) fun hb=>?_
       ·obtain⟨kk,hgm⟩:∃m1:Int,([[V.int .i64 k],[V.int .i64 (modK k 9)]]:List (List V))[i]?=some [V.int .i64 m1]:=by
         match i,hb with
         | 0,_=>exact⟨_,rfl⟩
         | 1,_=>exact⟨_,rfl⟩
         |n+2,h=>exact absurd h (by omega)
        have spF:=qf L E q s kk hsm hE11 (by omega);have spG:=tD L E q s kk hE11 (by omega);generalize nZ L E q s kk=fm at *;obtain⟨fs,fe⟩:=fm;simp only at spF spG;have spS:=yI fs fs;rw[decide_eq_true rfl] at spS;refine g ?_;exact gZ ⟨i+1,by omega,rfl,rfl⟩
       ·exact gR
  ·refine gEn env Tryz.func3 fun Γ hN hK hML=>?_;exact gR
 ·rw[decide_eq_false hll] at spL;refine gEn env Tryz.func3 fun Γ hN hK hML=>?_;exact gR
end Go.Sx.Sp
namespace Go.Sx.Sp
open Go Go.Sx Go.Proofs
attribute [local irreducible] aO famL
theorem EN{n:Nat}{rows:List (List V)}(hs:∀r∈rows,shape T (n+2) 65 r):∃l:List Cell,rows=aj l:=by
 obtain⟨l,h,_⟩:=ng (f:=Cell.row) (p:=fun _=>True) (rows:=rows) fun r hr=>by
  obtain⟨a,b,rfl,ha,c,d,rfl,hc,rfl⟩:=rg (T:=T) (t:=65) rfl (hs r hr);obtain⟨x,rfl⟩:=zi (T:=T) (t:=4) rfl ha;obtain⟨y,rfl,_⟩:=oA (T:=T) (t:=9) rfl hc;exact⟨⟨x,y⟩,rfl,trivial⟩
 exact⟨l,h⟩
theorem Fq{n:Nat}{rows:List (List V)}(hs:∀r∈rows,shape T (n+4) 30 r):∃l:List Column,rows=ai l:=by
 obtain⟨l,h,_⟩:=ng (f:=Column.row) (p:=fun _=>True) (rows:=rows) fun r hr=>by
  obtain⟨a,b,rfl,ha,c,d,rfl,hc,rfl⟩:=rg (T:=T) (t:=30) rfl (hs r hr);obtain⟨x,rfl,_⟩:=oA (T:=T) (t:=9) rfl ha;obtain⟨q,rfl,_,hq⟩:=rf (T:=T) (t:=28) rfl hc;obtain⟨l,rfl⟩:=EN hq;exact⟨⟨x,l⟩,rfl,trivial⟩
 exact⟨l,h⟩
theorem CY{n:Nat}{u:V}(hs:cn T (n+6) 25 u):∃t:Table,u=.agg t.row:=by
 obtain⟨vs,rfl,h⟩:=vD (T:=T) (t:=25) rfl rfl hs;obtain⟨a,b,rfl,ha,c,d,rfl,hc,e,f,rfl,he,rfl⟩:=rg (T:=T) (t:=25) rfl h;obtain⟨x,rfl,_⟩:=oz (T:=T) (t:=3) rfl ha;obtain⟨y,rfl,_⟩:=oA (T:=T) (t:=9) rfl hc;obtain⟨q,rfl,_,hq⟩:=rf (T:=T) (t:=23) rfl he;obtain⟨l,rfl⟩:=Fq hq;exact⟨⟨x,y,l⟩,rfl⟩
theorem exfinds_calls{w:World}{v0 v1 v2 v3 v4:Value}{u0 u1 u2 u3 u4:V}(r0:VRel w (fun _=>False) (fun _ _=>none) u0 v0)(r1:VRel w (fun _=>False) (fun _ _=>none) u1 v1)(r2:VRel w (fun _=>False) (fun _ _=>none) u2 v2)(r3:VRel w (fun _=>False) (fun _ _=>none) u3 v3)(r4:VRel w (fun _=>False) (fun _ _=>none) u4 v4)
  (a0:cn T 2 22 u0) (a1:cn T 6 25 u1) (a2:cn T 1 3 u2) (a3:cn T 1 3 u3) (a4:cn T 1 3 u4) (hg:GRel w (fun _=>False)) :
  Calls Tryz.prog 3 #[v0,v1,v2,v3,v4] w fun e w'=>e=.returned (.bool true)∧Go.RowKit.Below w.heap.size w w':=by
 obtain⟨l,rfl⟩:=Dt a0;obtain⟨tb,rfl⟩:=CY (n:=0) a1;obtain⟨n2,rfl,_⟩:=vK (n:=0) a2;obtain⟨n3,rfl,_⟩:=vK (n:=0) a3;obtain⟨n4,rfl,_⟩:=vK (n:=0) a4;refine Spec.law (yN l tb n2 n3 n4) (cargs:=[v0,v1,v2,v3,v4]) rfl (fun j u c hj hc=>?_) rfl hg
 match j with
 | 0=>cases hj;cases hc;exact r0
 | 1=>cases hj;cases hc;exact r1
 | 2=>cases hj;cases hc;exact r2
 | 3=>cases hj;cases hc;exact r3
 | 4=>cases hj;cases hc;exact r4
 |j+5=>cases hj
end Go.Sx.Sp
