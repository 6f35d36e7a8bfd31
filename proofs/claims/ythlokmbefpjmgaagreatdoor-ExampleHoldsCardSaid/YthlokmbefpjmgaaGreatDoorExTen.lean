/- The law that views that are found hold the example. -/
import Derived.Test.YthlokmbefpjmgaaGreatDoorExNine
import Derived.Test.YthlokmbefpjmgaaGreatDoorRtSix
import Derived.Test.YthlokmbefpjmgaaGreatDoorSxFive
import Derived.Test.YthlokmbefpjmgaaGreatDoorExSeven
import Derived.Test.YthlokmbefpjmgaaGreatDoorExEight
import Derived.Test.YthlokmbefpjmgaaGreatDoorJFour
import Derived.Test.YthlokmbefpjmgaaGreatDoorSxFour
set_option linter.unusedVariables false
set_option linter.unusedSimpArgs false
namespace Go.Sx.Sp
open Go Go.Sx Go.Proofs Go.Sort
attribute [local irreducible] GoodW famL
def cellQ (l:List Int) (L:List Table) (q:Nat):Cell×Nat:=
 if 0<nextV l (nextP l q) 4 then
  (cellT (L.getD (nextV l q L.length).toNat Table.zero) (nextV l (nextP l (nextP l q)) (L.getD (nextV l q L.length).toNat Table.zero).cols.length).toNat (nextV l (nextP l (nextP l (nextP l q))) (rowsN (L.getD (nextV l q L.length).toNat Table.zero))).toNat,nextP l (nextP l (nextP l (nextP l q))))
 else (⟨true,[]⟩,nextP l (nextP l q))
def colQ (l:List Int) (L:List Table) (R q:Nat):Column×Nat:=(⟨[],(seqF (fun _ q=>cellQ l L q) (1+R) 0 q).1⟩,(seqF (fun _ q=>cellQ l L q) (1+R) 0 q).2)
def questQ (l:List Int) (L:List Table) (n p:Nat):List Column×Nat:=seqF (fun _ q=>colQ l L (nextV l p 2).toNat q) n 0 (nextP l p)
theorem cellQ_ok {l:List Int}{L:List Table}{q:Nat}(hq:q≤l.length):(cellQ l L q).2≤l.length:=by
 unfold cellQ;split
 ·exact nextP_le (nextP_le (nextP_le (nextP_le hq)))
 ·exact nextP_le (nextP_le hq)
theorem colQ_ok {l:List Int}{L:List Table}{R q:Nat}(hq:q≤l.length):(colQ l L R q).2≤l.length:=
 (seqF_ok (step:=fun _ q=>cellQ l L q) (Q:=fun _ _=>True) (fun i q hq=>⟨trivial,cellQ_ok hq⟩) (1+R) 0 q hq).2
theorem questQ_ok {l:List Int}{L:List Table}{n p:Nat}(hp:p≤l.length):(questQ l L n p).2≤l.length:=
 (seqF_ok (step:=fun _ q=>colQ l L (nextV l p 2).toNat q) (Q:=fun _ _=>True) (fun i q hq=>⟨trivial,colQ_ok hq⟩) n 0 _ (nextP_le hp)).2
theorem questQ_len (l:List Int) (L:List Table) (n p:Nat):(questQ l L n p).1.length=n:=seqF_len _ _ _ _
structure GoodQ (t:Table):Prop where
 cols:1≤t.cols.length∧t.cols.length≤100
 rows:1≤rowsN t∧rowsN t≤100
 rect:RectT t
set_option maxHeartbeats 16000000 in
theorem question_spec (l:List Int) (L:List Table) (n p:Nat) (hp:p≤l.length) (hn:n≤100) (hL:1≤L.length∧L.length≤100) (hg:∀ t∈L,GoodQ t):Spec Tryz.prog 12 [.bp 0 0,.osl 1 0 0 (tblRows L).length (tblRows L).length,.int .i64 (n:Nat)] [(0,diceB l p),(1,.rows 3 (tblRows L) (some []))] (.agg (Table.row ⟨0,[],(questQ l L n p).1⟩)) [(0,diceB l (questQ l L n p).2),(1,.rows 3 (tblRows L) (some []))]:=by
 have sp0:=next_spec l p 2 (by omega) hp;have hr:=nextV_range l p (n:=2) (by omega);have hp1:=nextP_le hp;have hres:questQ l L n p=seqF (fun _ q=>colQ l L (nextV l p 2).toNat q) n 0 (nextP l p):=rfl;obtain ⟨R,hR⟩:=Int.eq_ofNat_of_zero_le hr.1;rw [hR] at sp0 hr hres;rw [Int.toNat_natCast] at hres;generalize nextP l p=p1 at *;generalize questQ l L n p=res at *;have hLl:=tblRows_len L;refine gEn env Tryz.func12 fun Γ hN hK hML=>?_;refine gGo ?_;(refine ⟨_,_,_,callG [(0,0)] [] [] rfl rfl rfl (by kernel_rfl) (sp0) (by repeat' (first | exact trivial | exact Lent.refl _ | exact Lent.norm _ | exact Lent.whole rfl rfl (by first | rfl | exact List.length_append.symm | exact hlenR | simp) rfl (by first | exact .inl rfl | exact .inr rfl) | apply And.intro)) rfl ⟨rfl,rfl,rfl,rfl,rfl,by repeat' (first | exact trivial | rfl | apply And.intro),rfl,rfl⟩,?_⟩;conv=>whnf);refine gGo ?_;refine W.ownCell 7 0 2 91 2 rfl rfl rfl rfl rfl ?_;refine W.loopG (fun m st=>∃ (j q:Nat) (cs:List Column),j≤n∧q≤l.length∧cs.length=j∧res=(cs++(seqF (fun _ q=>colQ l L R q) (n-j) j q).1,(seqF (fun _ q=>colQ l L R q) (n-j) j q).2)∧m=n-j∧st=⟨[(0,.bp 0 0),(1,.osl 1 0 0 (tblRows L).length (tblRows L).length),(6,.bp 6 0),(7,.bp 7 0),(8,.int .i64 (1+(R:Int))),(16,.int .i64 (n:Nat)),(17,.int .i64 (j:Nat))],[(0,[diceB l q]),(1,[.rows 3 (tblRows L) (some [])]),(6,[.rows 3 [[.int .i64 0,.str [],.nils]] none]),(7,[.rows 3 [[.int .i64 0,.str [],.osl 91 0 0 (colRows cs).length (colRows cs).length]] none]),(91,[.rows 2 (colRows cs) (some [])])],[0,1,6,7,91]⟩)
  n _ ⟨0,p1,[],by omega,hp1,rfl,hres,by omega,rfl⟩ gX ?_
 clear hres hp1 sp0;rintro m st ⟨j,q,cs,hj,hq,hcs,hce,rfl,rfl⟩;have hcl:=colRows_len cs;refine gT (fun hb=>?_) fun hb=>?_
 ·have hjl:j<n:=by omega
  have hcd:colQ l L R q=(⟨[],(seqF (fun _ q=>cellQ l L q) (1+R) 0 q).1⟩,(seqF (fun _ q=>cellQ l L q) (1+R) 0 q).2):=rfl;have hcok:=colQ_ok (l:=l) (L:=L) (R:=R) hq;rw [show n-j=(n-(j+1))+1 by omega] at hce;simp only [seqF] at hce;generalize hX:seqF (fun _ q=>cellQ l L q) (1+R) 0 q=X at hcd;rw [hcd] at hce hcok;clear hcd;refine gGo ?_;refine W.ownCell 9 0 1 92 2 rfl rfl rfl rfl rfl ?_;refine W.loopG (fun m st=>∃ (i q:Nat) (xs:List Cell),i≤1+R∧q≤l.length∧xs.length=i∧X=(xs++(seqF (fun _ q=>cellQ l L q) (1+R-i) i q).1,(seqF (fun _ q=>cellQ l L q) (1+R-i) i q).2)∧m=1+R-i∧st=⟨[(0,.bp 0 0),(1,.osl 1 0 0 (tblRows L).length (tblRows L).length),(6,.bp 6 0),(7,.bp 7 0),(8,.int .i64 (1+(R:Int))),(16,.int .i64 (n:Nat)),(17,.int .i64 (j:Nat)),(9,.bp 9 0),(20,.int .i64 (1+(R:Int))),(21,.int .i64 (i:Nat))],[(0,[diceB l q]),(1,[.rows 3 (tblRows L) (some [])]),(6,[.rows 3 [[.int .i64 0,.str [],.nils]] none]),(7,[.rows 3 [[.int .i64 0,.str [],.osl 91 0 0 (colRows cs).length (colRows cs).length]] none]),(91,[.rows 2 (colRows cs) (some [])]),(9,[.rows 2 [[.str [],.osl 92 0 0 (cellRows xs).length (cellRows xs).length]] none]),(92,[.rows 2 (cellRows xs) (some [])])],[0,1,6,7,91,9,92]⟩)
   (1+R) _ ⟨0,q,[],by omega,hq,rfl,hX.symm,by omega,rfl⟩ gX ?_
  clear hX hq;rintro m st ⟨i,q,xs,hi,hq,hxs,hxe,rfl,rfl⟩;have hxl:=cellRows_len xs;refine gT (fun hb=>?_) fun hb=>?_
  ·have hil:i<1+R:=by omega
   have hq1:=nextP_le hq;have hq2:=nextP_le hq1;have hq3:=nextP_le hq2;have sp1:=next_spec l q (L.length:Nat) (by omega) hq;have hr1:=nextV_range l q (n:=(L.length:Nat)) (by omega);have sp2:=next_spec l (nextP l q) 4 (by omega) hq1;have hcellok:=cellQ_ok (l:=l) (L:=L) hq;rw [show 1+R-i=(1+R-(i+1))+1 by omega] at hxe;simp only [seqF] at hxe;obtain ⟨a,ha⟩:=Int.eq_ofNat_of_zero_le hr1.1;have hc0:cellQ l L q=cellQ l L q:=rfl
   conv at hc0=>rhs;unfold cellQ
   rw [ha] at sp1 hr1 hc0;rw [Int.toNat_natCast] at hc0;have hal:a<L.length:=by omega
   have htg:=tblRows_get hal;have hgt:=hg _ (List.getElem_mem hal);rw [show L.getD a Table.zero=L[a] by simp [List.getD_eq_getElem?_getD,hal]] at hc0;generalize L[a]=t at *;obtain ⟨⟨g1,g2⟩,⟨g3,g4⟩,g5⟩:=hgt;have spR:=rows3_spec t;have hkl:=colRows_len t.cols;rw [←hLl] at sp1;refine gGo ?_;intros;(refine ⟨_,_,_,callG [(0,0)] [] [] rfl rfl rfl (by kernel_rfl) (sp1) (by repeat' (first | exact trivial | exact Lent.refl _ | exact Lent.norm _ | exact Lent.whole rfl rfl (by first | rfl | exact List.length_append.symm | exact hlenR | simp) rfl (by first | exact .inl rfl | exact .inr rfl) | apply And.intro)) rfl ⟨rfl,rfl,rfl,rfl,rfl,by repeat' (first | exact trivial | rfl | apply And.intro),rfl,rfl⟩,?_⟩;conv=>whnf);(refine g ?_;intros);(refine ⟨_,_,_,callG [(0,0)] [] [] rfl rfl rfl (by kernel_rfl) (sp2) (by repeat' (first | exact trivial | exact Lent.refl _ | exact Lent.norm _ | exact Lent.whole rfl rfl (by first | rfl | exact List.length_append.symm | exact hlenR | simp) rfl (by first | exact .inl rfl | exact .inr rfl) | apply And.intro)) rfl ⟨rfl,rfl,rfl,rfl,rfl,by repeat' (first | exact trivial | rfl | apply And.intro),rfl,rfl⟩,?_⟩;conv=>whnf);refine gT (fun hb=>?_) fun hb=>?_
   ·rw [if_pos hb] at hc0;have hr3:=nextV_range l (nextP l (nextP l q)) (n:=(t.cols.length:Nat)) (by omega);have sp3:=next_spec l (nextP l (nextP l q)) (t.cols.length:Nat) (by omega) hq2;have hr4:=nextV_range l (nextP l (nextP l (nextP l q))) (n:=(rowsN t:Nat)) (by omega);have sp4:=next_spec l (nextP l (nextP l (nextP l q))) (rowsN t:Nat) (by omega) hq3;obtain ⟨b,hb3⟩:=Int.eq_ofNat_of_zero_le hr3.1;obtain ⟨c,hb4⟩:=Int.eq_ofNat_of_zero_le hr4.1;rw [hb3] at sp3 hr3 hc0;rw [hb4] at sp4 hr4 hc0;rw [Int.toNat_natCast,Int.toNat_natCast] at hc0;have hbl:b<t.cols.length:=by omega
    have hcl5:c<rowsN t:=by omega
    obtain ⟨hx1,hx2⟩:=cellT_get g5 hbl hcl5;have hcg:=colRows_get hbl;rw [←hkl] at sp3;rw [hc0] at hxe hcellok;generalize cellT t b c=x at *;generalize t.cols[b]=cc at *;refine gGo ?_;intros;(refine ⟨_,_,_,callG [(0,0)] [] [] rfl rfl rfl (by kernel_rfl) (sp3) (by repeat' (first | exact trivial | exact Lent.refl _ | exact Lent.norm _ | exact Lent.whole rfl rfl (by first | rfl | exact List.length_append.symm | exact hlenR | simp) rfl (by first | exact .inl rfl | exact .inr rfl) | apply And.intro)) rfl ⟨rfl,rfl,rfl,rfl,rfl,by repeat' (first | exact trivial | rfl | apply And.intro),rfl,rfl⟩,?_⟩;conv=>whnf);refine g ?_;(refine ⟨_,_,_,callG [(0,0)] [] [] rfl rfl rfl (by kernel_rfl) (sp4) (by repeat' (first | exact trivial | exact Lent.refl _ | exact Lent.norm _ | exact Lent.whole rfl rfl (by first | rfl | exact List.length_append.symm | exact hlenR | simp) rfl (by first | exact .inl rfl | exact .inr rfl) | apply And.intro)) rfl ⟨rfl,rfl,rfl,rfl,rfl,by repeat' (first | exact trivial | rfl | apply And.intro),rfl,rfl⟩,?_⟩;conv=>whnf);refine g ?_;refine ⟨⟨rowsSz_cons rfl rowsSz_nil,rfl⟩,fitsN (n:=(cellRows xs).length+1) (b:=24) (by omega) (by omega),.inl ⟨rfl,rfl,?_⟩⟩;(conv=>whnf);refine gGo ?_;refine ⟨_,_,?_,⟨i+1,_,xs++[_],by omega,hcellok,by simp;omega,(by rw [hxe,List.append_cons]),rfl,rfl⟩,[(0,0),(1,1),(6,6),(7,7),(91,91),(9,9),(92,92)],[],[],LeG.mq (.ci 0 (.ci 1 (.ci 6 (.ci 7 (.ci 91 (.cons 9 rfl rfl (.refl _) ?_ (.cons 92 rfl rfl (.refl _) ?_ .nil)))))))⟩
    ·omega
    ·rw [cellRows_snoc,List.length_append];rfl
    ·rw [cellRows_snoc];rfl
   ·rw [if_neg hb] at hc0;rw [hc0] at hxe hcellok;refine gGo ?_;refine ⟨⟨rowsSz_cons rfl rowsSz_nil,rfl⟩,fitsN (n:=(cellRows xs).length+1) (b:=24) (by omega) (by omega),.inl ⟨rfl,rfl,?_⟩⟩;(conv=>whnf);refine gGo ?_;refine ⟨_,_,?_,⟨i+1,_,xs++[_],by omega,hcellok,by simp;omega,(by rw [hxe,List.append_cons]),rfl,rfl⟩,[(0,0),(1,1),(6,6),(7,7),(91,91),(9,9),(92,92)],[],[],LeG.mq (.ci 0 (.ci 1 (.ci 6 (.ci 7 (.ci 91 (.cons 9 rfl rfl (.refl _) ?_ (.cons 92 rfl rfl (.refl _) ?_ .nil)))))))⟩
    ·omega
    ·rw [cellRows_snoc,List.length_append];rfl
    ·rw [cellRows_snoc];rfl
  ·have hie:i=1+R:=by omega
   rw [hie,Nat.sub_self] at hxe;simp only [seqF,List.append_nil] at hxe;rw [hxe] at hce hcok;clear hxe;refine W.leG (mp:=[(0,0),(1,1),(6,6),(7,7),(91,91),(9,9)]) (bo:=[92]) (st':=⟨[(0,.bp 0 0),(1,.osl 1 0 0 (tblRows L).length (tblRows L).length),(6,.bp 6 0),(7,.bp 7 0),(8,.int .i64 (1+(R:Int))),(16,.int .i64 (n:Nat)),(17,.int .i64 (j:Nat)),(9,.bp 9 0),(22,.bool false)],[(0,[diceB l q]),(1,[.rows 3 (tblRows L) (some [])]),(6,[.rows 3 [[.int .i64 0,.str [],.nils]] none]),(7,[.rows 3 [[.int .i64 0,.str [],.osl 91 0 0 (colRows cs).length (colRows cs).length]] none]),(91,[.rows 2 (colRows cs) (some [])]),(9,[.rows 2 [Column.row ⟨[],xs⟩] none])],[0,1,6,7,91,9]⟩)
    (LeG.mq (.ci 0 (.ci 1 (.ci 6 (.ci 7 (.ci 91 (.cons 9 (b1:=.rows 2 [Column.row ⟨[],xs⟩] none) rfl rfl (.rows _ _ _ (by repeat' (first | exact trivial | exact ⟨Lent.refl _,rfl⟩ | exact ⟨Lent.norm _,rfl⟩ | exact ⟨Lent.whole rfl rfl (by first | rfl | exact List.length_append.symm | exact hlenR | simp) rfl (by first | exact .inl rfl | exact .inr rfl),rfl⟩ | apply And.intro))) rfl .nil))))))) ?_
   refine gGo ?_;refine ⟨⟨rowsSz_cons rfl rowsSz_nil,rfl⟩,fitsN (n:=(colRows cs).length+1) (b:=40) (by omega) (by omega),.inl ⟨rfl,rfl,?_⟩⟩;(conv=>whnf);refine gGo ?_;refine ⟨_,_,?_,⟨j+1,_,cs++[_],by omega,hcok,by simp;omega,(by rw [hce,List.append_cons]),rfl,rfl⟩,[(0,0),(1,1),(6,6),(7,7),(91,91)],[],[],LeG.mq (.ci 0 (.ci 1 (.ci 6 (.cons 7 rfl rfl (.refl _) ?_ (.cons 91 rfl rfl (.refl _) ?_ .nil)))))⟩
   ·omega
   ·rw [colRows_snoc,List.length_append];rfl
   ·rw [colRows_snoc];rfl
 ·have hje:j=n:=by omega
  rw [hje,Nat.sub_self] at hce;simp only [seqF,List.append_nil] at hce;rw [hce];clear hce;refine W.leG (mp:=[(0,0),(1,1),(6,6),(7,7)]) (bo:=[91]) (st':=⟨[(6,.bp 6 0),(7,.bp 7 0),(18,.bool false)],[(0,[diceB l q]),(1,[.rows 3 (tblRows L) (some [])]),(6,[.rows 3 [[.int .i64 0,.str [],.nils]] none]),(7,[.rows 3 [Table.row ⟨0,[],cs⟩] none])],[0,1,6,7]⟩)
   (LeG.mq (.ci 0 (.ci 1 (.ci 6 (.cons 7 (b1:=.rows 3 [Table.row ⟨0,[],cs⟩] none) rfl rfl (.rows _ _ _ (by repeat' (first | exact trivial | exact ⟨Lent.refl _,rfl⟩ | exact ⟨Lent.norm _,rfl⟩ | exact ⟨Lent.whole rfl rfl (by first | rfl | exact List.length_append.symm | exact hlenR | simp) rfl (by first | exact .inl rfl | exact .inr rfl),rfl⟩ | apply And.intro))) rfl .nil))))) ?_
  refine gGo ?_;(refine gM ?_;conv=>whnf);exact retH rfl (.refl _) rfl rfl rfl ⟨rfl,rfl,rfl,rfl,trivial⟩
def colA:Column:=⟨[],[⟨false,[80,97,114,105,115]⟩,⟨false,[66,111,110,110]⟩]⟩
def tabA:List Table:=[⟨1,[],[colA,colA]⟩]
def qA:Table:=⟨0,[],[⟨[],[⟨false,[80,97,114,105,115]⟩]⟩]⟩
def fA (c:Int):Fnd:=⟨⟨1,[]⟩,[⟨1,c⟩],2⟩
theorem awake_e:exE qA=0:=by decide
theorem awake_l:listB tabA=true:=by decide
theorem awake_p:exPathsM tabA [] 2=([⟨1,[]⟩],0):=by
 have hc:candL tabA [] (2:Int).toNat=[⟨1,[]⟩]:=by decide
 unfold exPathsM;rw [if_pos awake_l,if_pos (by decide),hc,if_pos (by decide),←insF_sort ordC_tot];rfl
theorem awake_a:pathAns tabA qA ⟨1,[]⟩=[fA 0,fA 1]:=by decide
theorem find_awake:findM tabA [] qA 2 9=([fA 0,fA 1],0):=by
 unfold findM;rw [if_pos (by decide),if_pos awake_e,awake_p,if_pos rfl];simp only [List.flatMap_cons,List.flatMap_nil,List.append_nil];rw [awake_a,←insF_sort fndC_tot];rfl
theorem cmpF_sp (a b:Fnd):Spec Tryz.prog 24 [.agg a.row,.agg b.row] [] (.int .i64 (fndC a b)) []:=Spec.ofQuiet (cmpF_spec a b) fun u hu=>by
 simp at hu;rcases hu with rfl | rfl<;>simp [V.sites,sitesL,Fnd.row]
theorem refs_eql {N:NB}{o:Oper}{h:Nat→List Blk}{ρ:Operand→V}{t':Nat}{x y:Operand}(hop:o.op=.binOp .eql 67 x y t') (c d:Rf) (hx:ρ x=.agg c.row) (hy:ρ y=.agg d.row) (hd:dstOK N o.dst=true):GoodW Tryz.prog N o ρ h (.bool (decide (c=d))) [] []:=by
 have h1:=aggI_good (P:=Tryz.prog) (N:=N) (h:=h) (ρ:=ρ) (op:=.eql) hop (.inl rfl) (by kernel_rfl)
  (fun l l' w a b=>EqI.equal (n:=2) (d:=10000) (eqI_two (d:=9999) (n0:=1) (n1:=1) Tryz.underlying67 (by kernel_rfl) (by kernel_rfl) (by kernel_rfl) rfl rfl Tryz.isAgg67 Tryz.sizeOf67 (eqI_int Tryz.underlying3) (eqI_int Tryz.underlying3)) rfl Tryz.isAgg67 Tryz.sizeOf67 a b w) (l:=[c.t,c.c]) (l':=[d.t,d.c]) rfl rfl hx hy
 have e:decide (c=d)=decide ([c.t,c.c]=[d.t,d.c]):=decide_eq_decide.2 (ref_eq c d).symm;rw [e];exact h1.toW hd
set_option maxHeartbeats 4000000 in
theorem awake35_spec:Spec Tryz.prog 8 [] [] (.bool true) []:=by
 have sp:=exFind_spec tabA [] qA 2 9 (listB_small awake_l) (fun r hr=>by cases hr) (by decide);rw [find_awake] at sp;have spC:=cmpF_sp (fA 0) (fA 1);rw [show fndC (fA 0) (fA 1)=-1 by decide] at spC;refine gEn env Tryz.func8 fun Γ hN hK hML=>?_;refine gGo ?_;refine ⟨⟨by decide,by decide,by decide⟩,rowsSz_cons rfl (rowsSz_cons rfl rowsSz_nil),?_⟩;(conv=>whnf);(refine g ?_;intros);refine ⟨_,_,_,refs_eql rfl ⟨1,0⟩ ⟨1,0⟩ rfl rfl (by kernel_rfl),?_⟩;rw [decide_eq_true rfl];(conv=>whnf);exact gR
theorem pathAns_le (l:List Table) (q:Table) (p:Pth):(pathAns l q p).length≤(refsL (tabsM l p)).length ^ q.cols.length:=by
 unfold pathAns;split
 ·unfold ansL;rw [List.length_map,←choicesR_count];exact List.length_filter_le _ _
 ·simp
def ansF (l:List Table) (E:List (List Int)) (q:Table) (k:Nat):List Fnd:=(sortBy ordC (candL l E k)).flatMap (pathAns l q)
theorem ansF_mem {l:List Table}{E:List (List Int)}{q:Table}{k:Nat}{x:Fnd}:x∈ansF l E q k↔∃ p∈candL l E k,x∈pathAns l q p:=by
 unfold ansF;rw [List.mem_flatMap];exact ⟨fun ⟨p,h1,h2⟩=>⟨p,(sortBy_mem ordC).1 h1,h2⟩,fun ⟨p,h1,h2⟩=>⟨p,(sortBy_mem ordC).2 h1,h2⟩⟩
theorem findM_all {l:List Table}{E:List (List Int)}{q:Table}{k N B:Nat}(hl:listB l=true) (hk:k≤4) (hq:exE q=0) (hc:(candL l E k).length≤N) (hB:∀ p∈candL l E k,(refsL (tabsM l p)).length ^ q.cols.length≤B) (hN:N≤1024) (hNB:N*B≤1024) :
  findM l E q (k:Nat) 1024=(sortBy fndC (ansF l E q k),0):=by
 have h1:exPathsM l E (k:Nat)=(sortBy ordC (candL l E k),0):=by
  unfold exPathsM;rw [if_pos hl,if_pos (by omega),Int.toNat_natCast,if_pos (by omega)]
 have h2:(ansF l E q k).length≤1024:=by
  have:=flat_le (pathAns l q) B (sortBy ordC (candL l E k)) fun p hp=>Nat.le_trans (pathAns_le l q p) (hB p ((sortBy_mem ordC).1 hp));rw [sortBy_len] at this;have h3:=Nat.mul_le_mul_right B hc;unfold ansF;omega
 unfold findM;rw [if_pos (by omega),if_pos hq,h1,if_pos rfl];show ((sortBy fndC (ansF l E q k)).take 1024,(0:Int))=_;rw [List.take_of_length_le (by rw [sortBy_len];exact h2)]
theorem listB_ids {l:List Table}(hl:listB l=true):(l.map Table.id).Nodup:=by
 have hasc:ascB l=true:=by unfold listB at hl;rw [Bool.and_eq_true] at hl;exact hl.1
 have hlt:=ascB_lt hasc;rw [List.nodup_iff_pairwise_ne,List.pairwise_map,List.pairwise_iff_getElem];intro i j hi hj hij e;have:=hlt i j hi hj hij;omega
theorem exE_of {Q:List Column}{m:Nat}(h0:1≤Q.length∧Q.length≤3) (hm:m≤4096) (h:∀ c∈Q,c.name=[]∧c.cells.length=m∧c.cells.all cellB=true):exE ⟨0,[],Q⟩=0∧rowsN ⟨0,[],Q⟩=m:=by
 have hr:rowsN ⟨0,[],Q⟩=m:=by
  unfold rowsN;cases Q with
  | nil=>simp at h0
  | cons c Q=>exact (h c List.mem_cons_self).2.1
 refine ⟨?_,hr⟩;have hval:validB ⟨0,[],Q⟩=true:=by
  unfold validB;have h1:headB ⟨0,[],Q⟩=true:=by
   unfold headB;rw [hr,decide_eq_true (show m≤4096 by omega)];show (decide ((0:Int)≤0∧(0:Int)≤1073741824)&&fineB []&&decide (Q.length≤64)&&true)=true;rw [decide_eq_true (show Q.length≤64 by omega)];decide +kernel
  have h2:(Q.any (badCol ⟨0,[],Q⟩))=false:=by
   rw [List.any_eq_false];intro c hc;obtain ⟨g1,g2,g3⟩:=h c hc;unfold badCol;have b3:fineB []=true:=by decide +kernel
   rw [hr,g1,b3,g3,decide_eq_false (fun h=>h g2)];decide
  rw [h1,h2];rfl
 unfold exE;rw [if_pos hval,if_neg (by show ¬(Q.length=0∨3<Q.length);omega)]
theorem cellQ_B {l:List Int}{L:List Table}(hv:∀ t∈L,validB t=true) (h0:L≠[]) (hg:∀ t∈L,GoodQ t) (hL:L.length≤1000) (q:Nat) (hq:q≤l.length):cellB (cellQ l L q).1=true:=by
 unfold cellQ;split
 ·have hp:=List.length_pos_iff.2 h0;have r1:=nextV_range l q (n:=(L.length:Nat)) (by omega);obtain ⟨a,ha⟩:=Int.eq_ofNat_of_zero_le r1.1;rw [ha] at r1 ⊢;rw [Int.toNat_natCast];have hal:a<L.length:=by omega
  rw [show L.getD a Table.zero=L[a] by simp [List.getD_eq_getElem?_getD,hal]];have hm:=List.getElem_mem hal;have hv:=hv _ hm;obtain ⟨⟨g1,g2⟩,⟨g3,g4⟩,g5⟩:=hg _ hm;generalize L[a]=t at *;have r2:=nextV_range l (nextP l (nextP l q)) (n:=(t.cols.length:Nat)) (by omega);have r3:=nextV_range l (nextP l (nextP l (nextP l q))) (n:=(rowsN t:Nat)) (by omega);generalize nextV l (nextP l (nextP l q)) t.cols.length=b at *;generalize nextV l (nextP l (nextP l (nextP l q))) (rowsN t)=c at *;have hb:b.toNat<t.cols.length:=by omega
  have hc:c.toNat<(t.cols[b.toNat]).cells.length:=by rw [g5 _ (List.getElem_mem hb)];omega
  have e:cellT t b.toNat c.toNat=(t.cols[b.toNat]).cells[c.toNat]:=by
   unfold cellT;rw [List.getD_eq_getElem?_getD (l:=t.cols),List.getElem?_eq_getElem hb];show (t.cols[b.toNat]).cells.getD _ _=_;rw [List.getD_eq_getElem?_getD,List.getElem?_eq_getElem hc];rfl
  show cellB (cellT t b.toNat c.toNat)=true;rw [e];unfold validB at hv;rw [Bool.and_eq_true,Bool.not_eq_true',List.any_eq_false] at hv;have:=hv.2 _ (List.getElem_mem hb);unfold badCol at this;simp only [Bool.or_eq_true,not_or,Bool.not_eq_true',Bool.not_eq_false] at this;exact List.all_eq_true.1 this.2 _ (List.getElem_mem hc)
 ·show cellB ⟨true,[]⟩=true;decide +kernel
theorem questQ_B {l:List Int}{L:List Table}(hv:∀ t∈L,validB t=true) (h0:L≠[]) (hg:∀ t∈L,GoodQ t) (hL:L.length≤1000) {n p:Nat}(hp:p≤l.length):∀ c∈(questQ l L n p).1,c.name=[]∧c.cells.length=1+(nextV l p 2).toNat∧c.cells.all cellB=true:=by
 intro c hc;obtain ⟨j,hj,rfl⟩:=List.getElem_of_mem hc;refine (seqF_ok (step:=fun _ q=>colQ l L (nextV l p 2).toNat q) (Q:=fun _ c=>c.name=[]∧c.cells.length=1+(nextV l p 2).toNat∧c.cells.all cellB=true) (fun i q hq=>⟨⟨rfl,seqF_len _ _ _ _,?_⟩,colQ_ok hq⟩) n 0 _ (nextP_le hp)).1 j hj;rw [List.all_eq_true];intro x hx;obtain ⟨k,hk,rfl⟩:=List.getElem_of_mem hx;exact (seqF_ok (step:=fun _ q=>cellQ l L q) (Q:=fun _ x=>cellB x=true) (fun i q hq=>⟨cellQ_B hv h0 hg hL q hq,cellQ_ok hq⟩) (1+(nextV l p 2).toNat) 0 q hq).1 k hk
def MoreQ (Q M:List Column):Prop:=M.length=Q.length∧∀ (k:Nat) (c d:Column),Q[k]?=some c→M[k]?=some d→∃ w:Str,fineB w=true∧d=⟨[],c.cells++[⟨false,w⟩]⟩
theorem more_snoc {Q M:List Column}{k:Nat}(h:MoreQ (Q.take k) M) (hk:k<Q.length) {w:Str}(hw:fineB w=true):MoreQ (Q.take (k+1)) (M++[⟨[],Q[k].cells++[⟨false,w⟩]⟩]):=by
 obtain ⟨g1,g2⟩:=h;rw [List.take_succ_eq_append_getElem hk];refine ⟨by rw [List.length_append,List.length_append,g1];rfl,fun j c d hc hd=>?_⟩;by_cases e:j<M.length
 ·rw [List.getElem?_append_left e] at hd;rw [List.getElem?_append_left (by omega)] at hc;exact g2 j c d hc hd
 ·rw [List.getElem?_append_right (by omega),List.getElem?_singleton] at hd;rw [List.getElem?_append_right (by omega),List.getElem?_singleton] at hc;split at hc
  ·split at hd
   ·cases hc;cases hd;exact ⟨w,hw,rfl⟩
   ·cases hd
  ·cases hc
theorem more_B {Q M:List Column}{m:Nat}(h:MoreQ Q M) (hQ:∀ c∈Q,c.name=[]∧c.cells.length=m∧c.cells.all cellB=true):∀ c∈M,c.name=[]∧c.cells.length=m+1∧c.cells.all cellB=true:=by
 intro d hd;obtain ⟨k,hk,rfl⟩:=List.getElem_of_mem hd;have hkQ:k<Q.length:=by have:=h.1;omega
 obtain ⟨w,hw,e⟩:=h.2 k _ _ (List.getElem?_eq_getElem hkQ) (List.getElem?_eq_getElem hk);obtain ⟨g1,g2,g3⟩:=hQ _ (List.getElem_mem hkQ);rw [e];refine ⟨rfl,by simp [g2],?_⟩;rw [List.all_append,g3];show (true&&(cellB ⟨false,w⟩&&true))=true;unfold cellB;rw [hw];rfl
theorem more_cont {t:Table}{Q M:List Column}{m:Nat}(h:MoreQ Q M) (hm:rowsN ⟨0,[],Q⟩=m) (hm2:rowsN ⟨0,[],M⟩=m+1) (hQ:∀ c∈Q,c.cells.length=m) (hc:contB t ⟨0,[],M⟩=true):contB t ⟨0,[],Q⟩=true:=by
 unfold contB at hc ⊢;rw [hm2,Bool.and_eq_true] at hc;rw [hm,Bool.and_eq_true];have hl:(⟨0,[],M⟩:Table).cols.length=(⟨0,[],Q⟩:Table).cols.length:=h.1;refine ⟨by rw [←hl];exact hc.1,?_⟩;rw [List.all_eq_true];intro k hk;have hk:=List.mem_range.1 hk;have h1:=List.all_eq_true.1 hc.2 k (List.mem_range.2 (by omega));unfold anyB at h1 ⊢;rw [List.any_eq_true] at h1 ⊢;obtain ⟨i,hi,h2⟩:=h1;refine ⟨i,hi,?_⟩;unfold agB at h2 ⊢;rw [List.all_eq_true] at h2 ⊢;intro c hcm;have hcq:c<Q.length:=List.mem_range.1 hcm;have h3:=h2 c (by rw [hl];exact hcm);have hcM:c<M.length:=by have:=h.1;omega
 obtain ⟨w,_,e⟩:=h.2 c _ _ (List.getElem?_eq_getElem hcq) (List.getElem?_eq_getElem hcM);have e2:cellT ⟨0,[],M⟩ c k=cellT ⟨0,[],Q⟩ c k:=by
  unfold cellT;show ((M.getD c ⟨[],[]⟩).cells).getD k _=((Q.getD c ⟨[],[]⟩).cells).getD k _;rw [List.getD_eq_getElem?_getD (l:=M),List.getElem?_eq_getElem hcM,List.getD_eq_getElem?_getD (l:=Q),List.getElem?_eq_getElem hcq];show (M[c].cells).getD k _=(Q[c].cells).getD k _;rw [e,List.getD_eq_getElem?_getD,List.getD_eq_getElem?_getD];show ((Q[c].cells++[(⟨false,w⟩:Cell)])[k]?).getD _=_;rw [List.getElem?_append_left (by rw [hQ _ (List.getElem_mem hcq)];exact hk)]
 rw [e2] at h3;exact h3
theorem choicesR_nodup {α:Type}{R:List α}(h:R.Nodup):∀ n,(choicesR R n).Nodup
 | 0=>by simp [choicesR]
 | n+1=>by
  have hR:=List.nodup_iff_pairwise_ne.1 h;unfold choicesR;rw [List.nodup_iff_pairwise_ne,List.pairwise_flatMap];refine ⟨fun c _=>?_,(List.nodup_iff_pairwise_ne.1 (choicesR_nodup h n)).imp fun {a b} hne x hx y hy e=>?_⟩
  ·rw [List.pairwise_map];exact hR.imp fun {a b} hne e=>hne (by simpa using List.append_cancel_left e)
  ·obtain ⟨r,_,rfl⟩:=List.mem_map.1 hx;obtain ⟨s,_,rfl⟩:=List.mem_map.1 hy;exact hne (List.append_inj' e rfl).1
theorem ansF_nodup {l:List Table}{E:List (List Int)}(hl:listB l=true) {k:Nat}(hk:k≤4) (q:Table):(ansF l E q k).Nodup:=by
 have hp:∀ p x,x∈pathAns l q p→x.p=p:=fun p x hx=>by
  unfold pathAns at hx;split at hx
  ·obtain ⟨cs,_,rfl⟩:=List.mem_map.1 hx;rfl
  ·cases hx
 unfold ansF;have hn:(sortBy ordC (candL l E k)).Nodup:=(sortBy_perm ordC _).nodup_iff.2 (candL_nodup (listB_ids hl) E k);rw [List.nodup_iff_pairwise_ne,List.pairwise_flatMap];refine ⟨fun p hpm=>?_,(List.nodup_iff_pairwise_ne.1 hn).imp fun {a b} hne x hx y hy e=>hne (by rw [←hp a x hx,e,hp b y hy])⟩;have hv:=candL_valid hl hk ((sortBy_mem ordC).1 hpm);unfold pathAns;split
 ·unfold ansL;rw [List.pairwise_map];have hnd:((tabsM l p).map Table.id).Nodup:=by
   rw [tabsI_tabs hv];exact bef_nodup hv _ (Nat.le_refl _)
  exact ((List.nodup_iff_pairwise_ne.1 (choicesR_nodup (refsL_nodup hnd) _)).sublist List.filter_sublist).imp fun {a b} hne e=>hne (congrArg Fnd.cs e)
 ·exact List.Pairwise.nil
theorem candL_1 {l:List Table}{E:List (List Int)}(hl:listB l=true):(candL l E 1).length≤l.length*(1+E.length):=by
 have h1:=(candL_nodup (listB_ids hl) E 1).length_le_of_subset (l₂:=l.flatMap fun a=>(⟨a.id,[]⟩:Pth)::(wayW l (stpsE E) a.id).map fun s=>⟨a.id,[s]⟩) fun x hx=>by
  unfold candL at hx;obtain ⟨a,ha,hx⟩:=List.mem_flatMap.1 hx;refine List.mem_flatMap.2 ⟨a,ha,?_⟩;unfold candA at hx;rcases List.mem_cons.1 hx with rfl | hx
  ·exact List.mem_cons_self
  ·obtain ⟨b,hb,hx⟩:=List.mem_flatMap.1 hx;have hlt:=of_decide_eq_true (List.mem_filter.1 hb).2;unfold routesL simL at hx;rw [if_neg (by omega)] at hx;obtain ⟨s,hs,hx⟩:=List.mem_flatMap.1 hx;split at hx
   ·cases hx
   ·unfold simL at hx;split at hx
    ·rw [List.mem_singleton.1 hx];exact List.mem_cons_of_mem _ (List.mem_map.2 ⟨s,hs,rfl⟩)
    ·cases hx
 refine Nat.le_trans h1 (flat_le _ (1+E.length) l fun a _=>?_);have:=wayW_len l (stpsE E) a.id;unfold stpsE at this;rw [List.length_map] at this;show (_::List.map _ _).length≤_;rw [List.length_cons,List.length_map];unfold stpsE;omega
theorem cand_refs {l:List Table}{E:List (List Int)}(hc:∀ b∈l,b.cols.length≤2) {p:Pth}(hp:p∈candL l E 1):(refsL (tabsM l p)).length≤4:=by
 have hs:p.steps.length≤1:=by
  unfold candL at hp;obtain ⟨a,_,hp⟩:=List.mem_flatMap.1 hp;unfold candA at hp;rcases List.mem_cons.1 hp with rfl | hp
  ·exact Nat.zero_le _
  ·obtain ⟨b,hb,hx⟩:=List.mem_flatMap.1 hp;have hlt:=of_decide_eq_true (List.mem_filter.1 hb).2;unfold routesL simL at hx;rw [if_neg (by omega)] at hx;obtain ⟨s,hs,hx⟩:=List.mem_flatMap.1 hx;split at hx
   ·cases hx
   ·unfold simL at hx;split at hx
    ·rw [List.mem_singleton.1 hx];exact Nat.le_refl _
    ·cases hx
 have ht:∀ t∈tabsM l p,(refsT t t.cols.length).length≤2:=fun t ht=>by
  refine Nat.le_trans (refsT_len t _) ?_;have hz:∀ n,(tabOf l n).cols.length≤2:=fun n=>by
   unfold tabOf;cases hf:findT l n with
   | none=>exact Nat.zero_le _
   | some b=>exact hc b (List.mem_of_find?_eq_some hf)
  unfold tabsM at ht;rcases List.mem_cons.1 ht with rfl | ht
  ·exact hz _
  ·obtain ⟨s,_,rfl⟩:=List.mem_map.1 ht;exact hz _
 have:=flat_le (fun t:Table=>refsT t t.cols.length) 2 (tabsM l p) ht;rw [tabsM_len] at this;unfold refsL;omega
theorem edges_12 {l:List Table}(h:∀ b∈l,b.cols.length≤2) (hl:l.length≤3):(edges l).length≤12:=by
 have hA:∀ k n,(edgeA l k n).length≤n*((l.length-(k+1))*2):=fun k n=>by
  have:=flat_le (fun i=>edgeR (l.getD k Table.zero) i (l.drop (k+1))) ((l.length-(k+1))*2) (List.range n) (fun i _=>by
   have:=flat_le (fun b:Table=>edgeB (l.getD k Table.zero) i b b.cols.length) 2 (l.drop (k+1)) fun b hb=>Nat.le_trans (edgeB_len _ i b _) (h b (List.mem_of_mem_drop hb))
   rw [List.length_drop] at this
   exact this)
  rwa [List.length_range] at this
 have h2:∀ k,(l.getD k Table.zero).cols.length≤2:=fun k=>by
  rw [List.getD_eq_getElem?_getD];cases hk:l[k]? with
  | none=>exact Nat.zero_le _
  | some b=>exact h b (List.mem_of_getElem? hk)
 have h3:∀ k,(edgeA l k (l.getD k Table.zero).cols.length).length≤2*((l.length-(k+1))*2):=fun k=>Nat.le_trans (hA k _) (Nat.mul_le_mul_right _ (h2 k));show (edgeL l l.length).length≤12;obtain ⟨f,hf⟩:∃ f,f=fun k=>edgeA l k (l.getD k Table.zero).cols.length:=⟨_,rfl⟩
 have h4:∀ k,(f k).length≤2*((l.length-(k+1))*2):=fun k=>by rw [hf];exact h3 k
 have h0:=h4 0;have h1:=h4 1;have h2:=h4 2;unfold edgeL;rw [←hf]
 match hn:l.length,hl with
 | 0,_=>exact Nat.zero_le _
 | 1,_=>rw [hn] at h0;show ([0].flatMap f).length≤12;simp only [List.flatMap_cons,List.flatMap_nil,List.length_append,List.length_nil];omega
 | 2,_=>rw [hn] at h0 h1;show ([0,1].flatMap f).length≤12;simp only [List.flatMap_cons,List.flatMap_nil,List.length_append,List.length_nil];omega
 | 3,_=>rw [hn] at h0 h1 h2;show ([0,1,2].flatMap f).length≤12;simp only [List.flatMap_cons,List.flatMap_nil,List.length_append,List.length_nil];omega
theorem pathAns_more {l:List Table}{q m:Table}(hn:m.cols.length=q.cols.length) (hc:∀ t:Table,contB t m=true→contB t q=true) (p:Pth):pathAns l m p=(pathAns l q p).filter fun f=>contB (shTab l f.p f.cs) m:=by
 unfold pathAns;split
 ·unfold ansL;rw [hn,List.filter_map,List.filter_filter];refine congrArg (List.map _) (List.filter_congr fun cs _=>?_);unfold ansB;show (bothB p cs&&contB (shTab l p cs) m)=(contB (shTab l p cs) m&&(bothB p cs&&contB (shTab l p cs) q))
  cases h:contB (shTab l p cs) m with
  | false=>simp
  | true=>rw [hc _ h];simp
 ·rfl
theorem ansF_more {l:List Table}{E:List (List Int)}{q m:Table}(hn:m.cols.length=q.cols.length) (hc:∀ t:Table,contB t m=true→contB t q=true) (k:Nat):ansF l E m k=(ansF l E q k).filter fun f=>contB (shTab l f.p f.cs) m:=by
 unfold ansF;rw [List.filter_flatMap];exact congrArg (fun f=>List.flatMap f _) (funext fun p=>pathAns_more hn hc p)
theorem holds_facts {l:List Table}{E:List (List Int)}{q m:Table}(hl:listB l=true) (hsz:l.length≤3) (hcols:∀ b∈l,b.cols.length≤2) (hE:E.length≤12) (hq:exE q=0) (hqc:q.cols.length≤2) (hm:exE m=0)
  (hn:m.cols.length=q.cols.length) (hc:∀ t:Table,contB t m=true→contB t q=true) :
  ∃ S Z,findM l E q 1 1024=(S,0)∧findM l E m 1 1024=(Z,0)∧Z.Sublist S∧AscC fndC S ∧
   ∀ f∈S,(evalV l ⟨f.p,[],f.cs⟩).2=0∧contB (evalV l ⟨f.p,[],f.cs⟩).1 q=true∧RectT (evalV l ⟨f.p,[],f.cs⟩).1∧rowsN (evalV l ⟨f.p,[],f.cs⟩).1≤4096:=by
 have hN:(candL l E 1).length≤39:=Nat.le_trans (candL_1 hl) (Nat.le_trans (Nat.mul_le_mul hsz (show 1+E.length≤13 by omega)) (by omega));have hB:∀ t:Table,t.cols.length≤2→∀ p∈candL l E 1,(refsL (tabsM l p)).length ^ t.cols.length≤16:=fun t ht p hp =>
  Nat.le_trans (Nat.pow_le_pow_left (cand_refs hcols hp) _) (Nat.pow_le_pow_right (by omega) ht)
 have f1:=findM_all (N:=39) (B:=16) (k:=1) hl (by omega) hq hN (hB q hqc) (by omega) (by omega);have f2:=findM_all (N:=39) (B:=16) (k:=1) hl (by omega) hm hN (hB m (by omega)) (by omega) (by omega);have hnd:=ansF_nodup (E:=E) hl (k:=1) (by omega) q;have ha:=sortBy_asc fndC_tot hnd;have e:sortBy fndC (ansF l E m 1)=(sortBy fndC (ansF l E q 1)).filter fun f=>contB (shTab l f.p f.cs) m:=by
  refine ascC_ext fndC_tot (sortBy_asc fndC_tot (ansF_nodup hl (by omega) m)) (ha.sublist List.filter_sublist) fun x=>?_;rw [sortBy_mem,List.mem_filter,sortBy_mem,ansF_more hn hc,List.mem_filter]
 refine ⟨_,_,f1,f2,by rw [e];exact List.filter_sublist,ha,fun f hf=>?_⟩;rw [sortBy_mem,ansF_mem] at hf;obtain ⟨p,hp,hf⟩:=hf;have hv:=candL_valid hl (by omega) hp;unfold pathAns at hf;split at hf
 ·rename_i hr;obtain ⟨cs,hcs,rfl⟩:=List.mem_map.1 hf;obtain ⟨h1,h2⟩:=List.mem_filter.1 hcs;obtain ⟨g1,g2⟩:=choicesR_len _ _ cs h1;have hk:=kept_ok hv hr g2 (by omega);obtain ⟨a1,a2,a3⟩:=ans_eval (q:=q) hk;unfold ansB at h2;rw [Bool.and_eq_true] at h2;refine ⟨by unfold evalV mkF;rw [if_pos hk],by unfold mkF;rw [a1];exact h2.2,a2,Nat.le_trans a3 hr⟩
 ·cases hf
theorem cellRows_pb (l:List Cell):pureB (cellRows l)=true:=by
 unfold pureB cellRows;rw [List.all_eq_true];intro r hr;obtain ⟨c,_,rfl⟩:=List.mem_map.1 hr;rfl
def wordsH:List Str:=[[97],[98],[99],[110,111,110,101]]
set_option maxHeartbeats 16000000 in
theorem exHolds_law (t:List Int):Spec Tryz.prog 4 [.sl (intRows .i64 t) false] [] (.bool true) []:=by
 have hl:=intRows_len .i64 t;have spL:=light_spec t;have spA:=awake35_spec;by_cases hll:t.length≤500
 ·rw [decide_eq_true hll] at spL;obtain ⟨⟨j1,j2⟩,j3,j4⟩:=joined_ok (l:=t) (most:=3) (p:=0) (by omega) (Nat.zero_le _);have spJ:=joined_own t 3 0 (by omega) (Nat.zero_le _);generalize (joinedF t 3 0).1=L at *;generalize (joinedF t 3 0).2=p at *;have j2:L.length≤3:=j2;have hlist:=listB_J j3 (by omega);have hsm:=listB_small hlist;have hfew:∀ b∈L,b.cols.length≤2:=fun b hb=>by
   obtain ⟨k,hk,rfl⟩:=List.getElem_of_mem hb;exact (j3 k hk).few.2
  have spE:=edges_own L hlist (by omega);have hE11:=edges_11 L;have hEf:=edges_12 hfew j2;generalize edges L=E at *;have hEl:=relRows_len E;have hLl:=tblRows_len L;have hgq:∀ t∈L,GoodQ t:=fun b hb=>by
   obtain ⟨k,hk,rfl⟩:=List.getElem_of_mem hb;obtain ⟨n,n1,n2,n3⟩:=(j3 k hk).cols;have h1:=(j3 k hk).few;have h2:rowsN L[k]=n:=by
    unfold rowsN;cases hc:(L[k]).cols with
    | nil=>rw [hc] at h1;simp at h1
    | cons c cs=>exact (n3 c (by rw [hc];exact List.mem_cons_self)).len
   exact ⟨by omega,by omega,fun c hc=>by rw [h2];exact (n3 c hc).len⟩
  have hval:∀ t∈L,validB t=true:=by
   unfold listB at hlist;simp only [Bool.and_eq_true] at hlist;exact List.all_eq_true.1 hlist.2.2
  have hL0:L≠[]:=fun h=>by rw [h] at j1;simp at j1
  have hp1:=nextP_le j4;have spD:=next_spec t p 2 (by omega) j4;have rD:=nextV_range t p (n:=2) (by omega);obtain ⟨N,hN0⟩:=Int.eq_ofNat_of_zero_le rD.1;rw [hN0] at spD rD;have spQ:=question_spec t L (1+N) (nextP t p) hp1 (by omega) (by omega) hgq;have hp2:=questQ_ok (L:=L) (n:=1+N) hp1;have hQB:=questQ_B hval hL0 hgq (by omega) (n:=1+N) hp1;have hQl:=questQ_len t L (1+N) (nextP t p);have rR:=nextV_range t (nextP t p) (n:=2) (by omega);obtain ⟨R,hR⟩:=Int.eq_ofNat_of_zero_le rR.1;rw [hR] at rR hQB;rw [Int.toNat_natCast] at hQB;rw [show ((1+N:Nat):Int)=1+(N:Int) by omega] at spQ;have hq1:=exE_of (m:=1+R) (by omega) (by omega) hQB;clear hR;generalize questQ t L (1+N) (nextP t p)=Qp at *;obtain ⟨Q,p2⟩:=Qp;simp only at spQ hp2 hQB hQl hq1;obtain ⟨hqE,hqr⟩:=hq1;have hQc:=colRows_len Q;obtain ⟨S,_,hS,_,_,hasc,hSf⟩:=holds_facts (m:=⟨0,[],Q⟩) hlist j2 hfew hEf hqE (by show Q.length≤2;omega) hqE rfl fun t h=>h;have hfin:∀ M,MoreQ Q M→∃ Z,findM L E ⟨0,[],M⟩ 1 1024=(Z,0)∧Z.Sublist S:=fun M hM=>by
   obtain ⟨hm1,hm2⟩:=exE_of (Q:=M) (m:=1+R+1) (by have:=hM.1;omega) (by omega) (more_B hM hQB);obtain ⟨S2,Z,e1,e2,e3,_⟩:=holds_facts (m:=⟨0,[],M⟩) hlist j2 hfew hEf hqE (by show Q.length≤2;omega) hm1 hM.1 fun t h=>more_cont hM hqr hm2 (fun c hc=>(hQB c hc).2.1) h;rw [hS] at e1;obtain rfl:=(Prod.mk.inj e1).1;exact ⟨Z,e2,e3⟩
  have spF1:=exFind_spec L E ⟨0,[],Q⟩ 1 1024 hsm hE11 (by omega);rw [hS] at spF1;simp only at spF1;have hSl:=fndRows_len S;refine gEn env Tryz.func4 fun Γ hN hK hML=>?_;refine g ?_;(refine gCA [] [(5,70)] [] (roll_spec t) ?_;conv=>whnf);refine g ?_;(refine gCA [(0,70)] [(90,80)] [] (spJ) ?_;conv=>whnf);refine g ?_;refine ⟨_,_,_,callG [] [(90,81)] [80] rfl rfl rfl (by kernel_rfl) spE ⟨Lent.whole rfl rfl rfl rfl (.inl rfl),trivial⟩ rfl ⟨rfl,rfl,rfl,rfl,rfl,by repeat' (first | exact trivial | rfl | apply And.intro),rfl,(by show (true&&((Blk.rows 11 (relRows E) (some [])).flatB&&true))=true;rw [Bool.true_and,Bool.and_true];exact rel_flat E)⟩,?_⟩;(conv=>whnf);refine g ?_;(refine ⟨_,_,_,callG [(0,70)] [] [] rfl rfl rfl (by kernel_rfl) (spD) (by repeat' (first | exact trivial | exact Lent.refl _ | exact Lent.norm _ | exact Lent.whole rfl rfl (by first | rfl | exact List.length_append.symm | exact hlenR | simp) rfl (by first | exact .inl rfl | exact .inr rfl) | apply And.intro)) rfl ⟨rfl,rfl,rfl,rfl,rfl,by repeat' (first | exact trivial | rfl | apply And.intro),rfl,rfl⟩,?_⟩;conv=>whnf);refine g ?_;(refine gCA [(0,70),(1,80)] [] [] (spQ) ?_;conv=>whnf);refine gGs ?_;refine W.leG (mp:=[(70,70),(6,6)]) (bo:=[80,81]) (st':=⟨[(3,.bp 70 0),(4,.sl (tblRows L) false),(5,.sl (relRows E) false),(6,.bp 6 0)],[(70,[diceB t p2]),(6,[.rows 3 [Table.row ⟨0,[],Q⟩] none])],[70,6]⟩)
   (LeG.mk' rfl rfl rfl (by repeat' (first | exact trivial | exact ⟨_,.refl _,rfl⟩ | exact ⟨_,Lent.whole rfl rfl (by first | rfl | simp) rfl (.inl rfl),rfl⟩ | apply And.intro)) (.ci 70 (.ci 6 .nil)) rfl rfl (by rw [hK];rfl)) ?_
  clear spJ spE spD spQ spL;(refine g ?_;intros);refine W.loopR (fun m st=>∃ (i:Nat),i≤S.length∧m=S.length-i∧st=⟨[(3,.bp 70 0),(4,.sl (tblRows L) false),(5,.sl (relRows E) false),(6,.bp 6 0),(7,.sl (fndRows S) false),(46,.sl (fndRows S) false),(47,.int .i64 (fndRows S).length),(48,.int .i64 (i:Nat))],[(70,[diceB t p2]),(6,[.rows 3 [Table.row ⟨0,[],Q⟩] none])],[70,6]⟩)
   S.length _ ⟨0,by omega,by omega,rfl⟩ gY ?_
  rintro m st ⟨i,hi,rfl,rfl⟩;refine g ?_;refine gT (fun hb=>?_) fun hb=>?_
  ·have hil:i<S.length:=by omega
   have hfg:=fndRows_get hil;obtain ⟨h1,h2,h3,h4⟩:=hSf _ (List.getElem_mem hil);have spV:=eval34_spec L ⟨S[i].p,[],S[i].cs⟩;have spC:=contains34_spec h3 (validB_rect (exE_zero hqE).1).1 (by omega) (by rw [hqr];omega);rw [h2] at spC;have hcmp:∀ j (hj:j<i),j+1=i→∃ f,S[j]?=some f∧fndC f S[i]<0:=fun j hj e=>by
    subst e;exact ⟨S[j],List.getElem?_eq_getElem (by omega),List.pairwise_iff_getElem.1 hasc j (j+1) (by omega) hil (by omega)⟩
   generalize S[i]=f at *;generalize evalV L ⟨f.p,[],f.cs⟩=ev at *;obtain ⟨T,e0⟩:=ev;simp only at h1 spV spC;subst h1;by_cases h0:i=0
   ·refine g ?_;exact gW ⟨i+1,by omega,rfl,rfl⟩
   ·obtain ⟨f0,hf0,hlt⟩:=hcmp (i-1) (by omega) (by omega);have hfg0:(fndRows S)[i-1]?=some f0.row:=by unfold fndRows;rw [List.getElem?_map,hf0];rfl
    have spM:=cmpF_sp f0 f;refine g ?_;refine rowAt_of (r:=f0.row) (by simpa using hfg0) ?_;(conv=>whnf);refine g ?_;exact gW ⟨i+1,by omega,rfl,rfl⟩
  ·have hie:i=S.length:=by omega
   subst hie;(refine g ?_;intros);refine W.ownCell 13 0 2 91 2 rfl rfl rfl rfl rfl ?_;refine W.loopR (fun m st=>∃ (i p2:Nat) (M:List Column),i≤Q.length∧p2≤t.length∧MoreQ (Q.take i) M∧m=Q.length-i∧st=⟨[(3,.bp 70 0),(4,.sl (tblRows L) false),(5,.sl (relRows E) false),(7,.sl (fndRows S) false),(13,.bp 13 0),(85,.sl (colRows Q) false),(86,.int .i64 (colRows Q).length),(87,.int .i64 (i:Nat))],[(70,[diceB t p2]),(13,[.rows 3 [[.int .i64 0,.str [],.osl 91 0 0 (colRows M).length (colRows M).length]] none]),(91,[.rows 2 (colRows M) (some [])])],[70,13,91]⟩)
    Q.length _ ⟨0,p2,[],by omega,hp2,⟨rfl,fun k c d hc=>by simp at hc⟩,by omega,rfl⟩ gY ?_
   clear hp2 p2;rintro m st ⟨i,p2,M,hi,hp2,hM,rfl,rfl⟩;have hMc:=colRows_len M;have hMl:=hM.1;rw [List.length_take,Nat.min_eq_left hi] at hMl;refine g ?_;refine gT (fun hb=>?_) fun hb=>?_
   ·have hil:i<Q.length:=by omega
    have hcg:=colRows_get hil;obtain ⟨hw,spW⟩:=wordF_spec (ws:=wordsH) (by decide) (by decide) hp2;have hw:fineB (wordF wordsH t p2)=true:=(show ∀ s∈wordsH,fineB s=true by decide +kernel) _ hw;have hsn:=more_snoc hM hil hw;have hp3:=nextP_le hp2;generalize wordF wordsH t p2=wd at *;generalize nextP t p2=p3 at *;have hclen:=(hQB _ (List.getElem_mem hil)).2.1;generalize Q[i]=c at *;have hcc:=cellRows_len c.cells;have hpb:pureB (cellRows c.cells++[Cell.row ⟨false,wd⟩])=true:=by rw [←show cellRows (c.cells++[⟨false,wd⟩])=cellRows c.cells++[Cell.row ⟨false,wd⟩] by simp [cellRows]];exact cellRows_pb _
    have hs:List.drop (Int.toNat 0) (List.take (((cellRows c.cells).length:Nat):Int).toNat (cellRows c.cells))=cellRows c.cells:=by rw [Int.toNat_natCast,List.take_length];rfl
    (refine g ?_;intros);refine And.intro (cellRows_sz _) ?_;rw [hs];(conv=>whnf);refine g ?_;(refine ⟨_,_,_,callG [(0,70)] [] [] rfl rfl rfl (by kernel_rfl) (spW) (by repeat' (first | exact trivial | exact Lent.refl _ | exact Lent.norm _ | exact Lent.whole rfl rfl (by first | rfl | exact List.length_append.symm | exact hlenR | simp) rfl (by first | exact .inl rfl | exact .inr rfl) | apply And.intro)) rfl ⟨rfl,rfl,rfl,rfl,rfl,by repeat' (first | exact trivial | rfl | apply And.intro),rfl,rfl⟩,?_⟩;conv=>whnf);refine g ?_;refine ⟨⟨rowsSz_cons rfl rowsSz_nil,cellRows_sz _,fun h=>by cases h⟩,fitsN (n:=(cellRows c.cells).length+1) (b:=24) (by omega) (by omega),?_⟩;(conv=>whnf);refine Or.inr ⟨⟨rfl,(by rw [List.length_append]),(by rw [List.length_append]),hpb⟩,?_⟩;(conv=>whnf);refine g ?_;refine ⟨⟨rowsSz_cons rfl rowsSz_nil,rfl⟩,fitsN (n:=(colRows M).length+1) (b:=40) (by omega) (by omega),.inl ⟨rfl,rfl,?_⟩⟩;(conv=>whnf);refine g ?_;refine ⟨_,_,?_,⟨i+1,p3,_,by omega,hp3,hsn,rfl,rfl⟩,?_⟩
    ·omega
    ·rw [colRows_snoc,List.length_append,show Column.row ⟨[],c.cells++[⟨false,wd⟩]⟩=[.str [],.sl (cellRows c.cells++[Cell.row ⟨false,wd⟩]) false] by simp [Column.row,cellRows]];exact gY
   ·have hie:i=Q.length:=by omega
    rw [hie,List.take_length] at hM;obtain ⟨Z,hZ,hsub⟩:=hfin M hM;have spF2:=exFind_spec L E ⟨0,[],M⟩ 1 1024 hsm hE11 (by omega);rw [hZ] at spF2;simp only at spF2;have hZl:=fndRows_len Z;have hle:=hsub.length_le;clear hfin hZ hQB hM;refine W.leG (mp:=[(13,13)]) (bo:=[91]) (st':=⟨[(4,.sl (tblRows L) false),(5,.sl (relRows E) false),(7,.sl (fndRows S) false),(13,.bp 13 0),(88,.bool false)],[(13,[.rows 3 [Table.row ⟨0,[],M⟩] none])],[13]⟩)
     (LeG.mq (.cons 13 (b1:=.rows 3 [Table.row ⟨0,[],M⟩] none) rfl rfl (.rows _ _ _ (by repeat' (first | exact trivial | exact ⟨Lent.refl _,rfl⟩ | exact ⟨Lent.norm _,rfl⟩ | exact ⟨Lent.whole rfl rfl (by first | rfl | exact List.length_append.symm | exact hlenR | simp) rfl (by first | exact .inl rfl | exact .inr rfl),rfl⟩ | apply And.intro))) rfl .nil)) ?_
    (refine g ?_;intros);refine W.loopG (fun m st=>∃ (j k:Nat),j≤Z.length∧k≤S.length∧(Z.drop j).Sublist (S.drop k)∧m=Z.length-j∧st=⟨[(7,.sl (fndRows S) false),(18,.int .i64 (k:Nat)),(129,.sl (fndRows Z) false),(130,.int .i64 (fndRows Z).length),(131,.int .i64 (j:Nat))],[],[]⟩)
     Z.length _ ⟨0,0,by omega,by omega,hsub,by omega,rfl⟩ gX ?_
    clear hsub spF1 spF2;rintro m st ⟨j,k,hj,hk,hsub,rfl,rfl⟩;refine g ?_;refine gT (fun hb=>?_) fun hb=>?_
    ·have hjl:j<Z.length:=by omega
     have hyg:=fndRows_get hjl;rw [List.drop_eq_getElem_cons hjl] at hsub;generalize Z[j]=y at *;refine g ?_;refine W.loopG (fun m st=>∃ (k:Nat),k≤S.length∧(y::Z.drop (j+1)).Sublist (S.drop k)∧m=S.length-k∧st=⟨[(7,.sl (fndRows S) false),(18,.int .i64 (k:Nat)),(129,.sl (fndRows Z) false),(130,.int .i64 (fndRows Z).length),(131,.int .i64 (j:Nat)),(20,.bp 20 0)],[(20,[.rows 5 [y.row] none])],[20]⟩)
      (S.length-k) _ ⟨k,hk,hsub,rfl,rfl⟩ gX ?_
     clear hsub hk k;rintro m st ⟨k,hk,hsub,rfl,rfl⟩;have hkl:k<S.length:=by
      rcases Nat.lt_or_ge k S.length with h | h
      ·exact h
      ·rw [List.drop_eq_nil_of_le h] at hsub;cases hsub
     have hxg:=fndRows_get hkl;rw [List.drop_eq_getElem_cons hkl] at hsub;have spS:=same35_spec [S[k]] [y];by_cases e:S[k]=y
     ·have hsub2:(Z.drop (j+1)).Sublist (S.drop k):=by
       rw [List.drop_eq_getElem_cons hkl];exact (List.sublist_cons_self _ _).trans hsub
      generalize S[k]=x at *;rw [decide_eq_true (by rw [e])] at spS;(refine g ?_;intros);exact gZ ⟨j+1,k,by omega,hk,hsub2,rfl,rfl⟩
     ·have hsub2:(y::Z.drop (j+1)).Sublist (S.drop (k+1)):=by
       rcases List.sublist_cons_iff.1 hsub with h | ⟨r,h1,h2⟩
       ·exact h
       ·cases h1;exact absurd rfl e
      generalize S[k]=x at *;rw [decide_eq_false (by simp [e])] at spS;(refine g ?_;intros);exact gZ ⟨k+1,by omega,hsub2,rfl,rfl⟩
    ·exact gR
 ·rw [decide_eq_false hll] at spL;refine gEn env Tryz.func4 fun Γ hN hK hML=>?_;exact gR
end Go.Sx.Sp
namespace Go.Sx.Sp
open Go Go.Sx Go.Proofs
attribute [local irreducible] GoodW famL
theorem exholds_calls {w:World}{v0:Value}{u0:V}(r0:VRel w (fun _=>False) (fun _ _=>none) u0 v0) (a0:argShape T 2 22 u0) (hg:GRel w (fun _=>False)) :
  Calls Tryz.prog 4 #[v0] w fun e w'=>e=.returned (.bool true)∧Go.RowKit.Below w.heap.size w w':=by
 obtain ⟨l,rfl⟩:=arg_ints a0;refine Spec.law (exHolds_law l) (cargs:=[v0]) rfl (fun j u c hj hc=>?_) rfl hg
 match j with
 | 0=>cases hj;cases hc;exact r0
 | j+1=>cases hj
end Go.Sx.Sp
