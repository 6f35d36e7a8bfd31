/- Relations as owned slices; routes are valid paths. -/
import Derived.Test.YthlokmbefpjmgaaGreatDoorJSix
import Derived.Test.YthlokmbefpjmgaaGreatDoorSxFive
import Derived.Test.YthlokmbefpjmgaaGreatDoorRtFive
import Derived.Test.YthlokmbefpjmgaaGreatDoorJFour
import Derived.Test.YthlokmbefpjmgaaGreatDoorSxFour
set_option linter.unusedVariables false
set_option linter.unusedSimpArgs false
set_option maxHeartbeats 32000000
namespace Go.Sx.Sp
open Go Go.Sx Go.Proofs
attribute [local irreducible] aO famL
theorem zV(l:List Int)(most:Int)(p:Nat)(hm:2≤most∧most≤100)(hp:p≤l.length):Spec Tryz.prog 10 [.bp 0 0,.int .i64 most] [(0,ed l p)] (.osl 90 0 0 (aa (dK l most p).1).length (aa (dK l most p).1).length) [(0,ed l (dK l most p).2),(90,.rows 3 (aa (dK l most p).1) (some []))]:=by
 have hp1:=bC hp;have sp0:=dl l p (most-1) (by omega) hp;have hr:=bR l p (n:=most-1) (by omega);have hres:dK l most p=seqF (fun k q=>tabJ l k q) (2+(dw l p (most-1)).toNat) 0 (aM l p):=rfl;obtain⟨N,hN⟩:=Int.eq_ofNat_of_zero_le hr.1;rw[hN] at sp0 hr hres;rw[Int.toNat_natCast] at hres;generalize aM l p=p1 at *;generalize dK l most p=res at *;refine gEn env Tryz.func10 fun Γ hN hK hML=>?_;refine gGo ?_;(refine⟨_,_,_,cW [(0,0)] [] [] rfl rfl rfl (by kernel_rfl) (sp0) (by repeat' (first|exact trivial|exact Lent.refl _|exact Lent.norm _|exact Lent.whole rfl rfl (by first|rfl|exact List.length_append.symm|exact hlenR|simp) rfl (by first|exact .inl rfl|exact .inr rfl)|apply And.intro)) rfl ⟨rfl,rfl,rfl,rfl,rfl,by repeat' (first|exact trivial|rfl|apply And.intro),rfl,rfl⟩,?_⟩;conv=>whnf)
 refine gGo ?_;refine W.ownNil 5 90 3 rfl rfl ?_;refine W.loopG (fun m st=>∃(k q:Nat) (out:List Table),k≤2+N∧q≤l.length∧out.length=k∧res=(out++(seqF (fun k q=>tabJ l k q) (2+N-k) k q).1,(seqF (fun k q=>tabJ l k q) (2+N-k) k q).2)∧m=2+N-k∧st=⟨[(0,.bp 0 0),(5,.osl 90 0 0 (aa out).length (aa out).length),(15,.int .i64 (2+(N:Int))),(16,.int .i64 k)],[(0,[ed l q]),(90,[.rows 3 (aa out) (some [])])],[0,90]⟩)
  (2+N) _ ⟨0,p1,[],by omega,hp1,rfl,hres,by omega,rfl⟩ gX ?_
 rintro m st ⟨k,q,out,hk,hq,ho,he,rfl,rfl⟩;have hol:=aP out;refine gT (fun hb=>?_) fun hb=>?_
 ·have hkl:k<2+N:=by omega
  have hq1:=bC hq;have hq2:=bC hq1;have sp1:=dl l q 5 (by omega) hq;have hr1:=bR l q (n:=5) (by omega);have sp2:=dl l (aM l q) 2 (by omega) hq1;have hr2:=bR l (aM l q) (n:=2) (by omega);have hT:tabJ l k q=(⟨(k+1:Nat),[106],(seqF (fun _ q'=>colJ l (1+(dw l q 5).toNat) q') (1+(dw l (aM l q) 2).toNat) 0 (aM l (aM l q))).1⟩,(seqF (fun _ q'=>colJ l (1+(dw l q 5).toNat) q') (1+(dw l (aM l q) 2).toNat) 0 (aM l (aM l q))).2):=rfl;have htok:=(AK (l:=l) (k:=k) hq).2;obtain⟨R,hR⟩:=Int.eq_ofNat_of_zero_le hr1.1;obtain⟨M,hM⟩:=Int.eq_ofNat_of_zero_le hr2.1;rw[hR] at sp1 hr1 hT;rw[hM] at sp2 hr2 hT;rw[Int.toNat_natCast,Int.toNat_natCast] at hT;generalize hC:seqF (fun _ q=>colJ l (1+R) q) (1+M) 0 (aM l (aM l q))=C at hT;generalize aM l (aM l q)=q2 at *;generalize aM l q=q1 at *;rw[show 2+N-k=(2+N-(k+1))+1 by omega] at he;simp only[seqF] at he;rw[hT] at he htok;clear hT hR hM;refine gGo ?_;(refine⟨_,_,_,cW [(0,0)] [] [] rfl rfl rfl (by kernel_rfl) (sp1) (by repeat' (first|exact trivial|exact Lent.refl _|exact Lent.norm _|exact Lent.whole rfl rfl (by first|rfl|exact List.length_append.symm|exact hlenR|simp) rfl (by first|exact .inl rfl|exact .inr rfl)|apply And.intro)) rfl ⟨rfl,rfl,rfl,rfl,rfl,by repeat' (first|exact trivial|rfl|apply And.intro),rfl,rfl⟩,?_⟩;conv=>whnf)
  refine gGo ?_;(refine⟨_,_,_,cW [(0,0)] [] [] rfl rfl rfl (by kernel_rfl) (sp2) (by repeat' (first|exact trivial|exact Lent.refl _|exact Lent.norm _|exact Lent.whole rfl rfl (by first|rfl|exact List.length_append.symm|exact hlenR|simp) rfl (by first|exact .inl rfl|exact .inr rfl)|apply And.intro)) rfl ⟨rfl,rfl,rfl,rfl,rfl,by repeat' (first|exact trivial|rfl|apply And.intro),rfl,rfl⟩,?_⟩;conv=>whnf)
  refine gGo ?_;refine W.ownCell 7 0 2 91 2 rfl rfl rfl rfl rfl ?_;refine W.loopG (fun m st=>∃(j q:Nat) (cs:List Column),j≤1+M∧q≤l.length∧cs.length=j∧C=(cs++(seqF (fun _ q=>colJ l (1+R) q) (1+M-j) j q).1,(seqF (fun _ q=>colJ l (1+R) q) (1+M-j) j q).2)∧m=1+M-j∧st=⟨[(0,.bp 0 0),(5,.osl 90 0 0 (aa out).length (aa out).length),(15,.int .i64 (2+(N:Int))),(16,.int .i64 k),(7,.bp 7 0),(8,.int .i64 (1+(R:Int))),(27,.int .i64 (1+(M:Int))),(28,.int .i64 j)],[(0,[ed l q]),(90,[.rows 3 (aa out) (some [])]),(7,[.rows 3 [[.int .i64 ((k:Int)+1),.str [106],.osl 91 0 0 (ai cs).length (ai cs).length]] none]),(91,[.rows 2 (ai cs) (some [])])],[0,90,7,91]⟩)
   (1+M) _ ⟨0,q2,[],by omega,hq2,rfl,hC.symm,by omega,rfl⟩ gX ?_
  clear hC hq2 sp1 sp2 hq1 hq;rintro m st ⟨j,q,cs,hj,hq,hcs,hce,rfl,rfl⟩;have hcl:=aB cs;refine gT (fun hb=>?_) fun hb=>?_
  ·have hjl:j<1+M:=by omega
   have hq1:=bC hq;obtain⟨_,sp3⟩:=j9 (ws:=mH) (by decide) (by decide) hq;have hcd:colJ l (1+R) q=(⟨pD mH l q,(seqF (fun _ q=>iu l q) (1+R) 0 (aM l q)).1⟩,(seqF (fun _ q=>iu l q) (1+R) 0 (aM l q)).2):=rfl;have hcok:=(AJ (l:=l) (n:=1+R) hq).2;rw[show 1+M-j=(1+M-(j+1))+1 by omega] at hce;simp only[seqF] at hce;generalize hX:seqF (fun _ q=>iu l q) (1+R) 0 (aM l q)=X at hcd;rw[hcd] at hce hcok;clear hcd;generalize aM l q=q1 at *;generalize pD mH l q=nm at *;refine gGo ?_;(refine⟨_,_,_,cW [(0,0)] [] [] rfl rfl rfl (by kernel_rfl) (sp3) (by repeat' (first|exact trivial|exact Lent.refl _|exact Lent.norm _|exact Lent.whole rfl rfl (by first|rfl|exact List.length_append.symm|exact hlenR|simp) rfl (by first|exact .inl rfl|exact .inr rfl)|apply And.intro)) rfl ⟨rfl,rfl,rfl,rfl,rfl,by repeat' (first|exact trivial|rfl|apply And.intro),rfl,rfl⟩,?_⟩;conv=>whnf)
   refine gGo ?_;refine W.ownCell 9 0 1 92 2 rfl rfl rfl rfl rfl ?_;refine W.loopG (fun m st=>∃(i q:Nat) (xs:List Cell),i≤1+R∧q≤l.length∧xs.length=i∧X=(xs++(seqF (fun _ q=>iu l q) (1+R-i) i q).1,(seqF (fun _ q=>iu l q) (1+R-i) i q).2)∧m=1+R-i∧st=⟨[(0,.bp 0 0),(5,.osl 90 0 0 (aa out).length (aa out).length),(15,.int .i64 (2+(N:Int))),(16,.int .i64 k),(7,.bp 7 0),(8,.int .i64 (1+(R:Int))),(27,.int .i64 (1+(M:Int))),(28,.int .i64 j),(9,.bp 9 0),(34,.int .i64 (1+(R:Int))),(35,.int .i64 i)],[(0,[ed l q]),(90,[.rows 3 (aa out) (some [])]),(7,[.rows 3 [[.int .i64 ((k:Int)+1),.str [106],.osl 91 0 0 (ai cs).length (ai cs).length]] none]),(91,[.rows 2 (ai cs) (some [])]),(9,[.rows 2 [[.str nm,.osl 92 0 0 (aj xs).length (aj xs).length]] none]),(92,[.rows 2 (aj xs) (some [])])],[0,90,7,91,9,92]⟩)
    (1+R) _ ⟨0,q1,[],by omega,hq1,rfl,hX.symm,by omega,rfl⟩ gX ?_
   clear hX hq1 sp3 hq;rintro m st ⟨i,q,xs,hi,hq,hxs,hxe,rfl,rfl⟩;have hxl:=aF xs;refine gT (fun hb=>?_) fun hb=>?_
   ·have hil:i<1+R:=by omega
    obtain⟨_,sp4⟩:=j9 (ws:=oO) (by decide) (by decide) hq;have sp5:=dl l (aM l q) 9 (by omega) (bC hq);have hcellok:=(xh (l:=l) hq).2;rw[show 1+R-i=(1+R-(i+1))+1 by omega] at hxe;simp only[seqF] at hxe;refine gGo ?_;(refine⟨_,_,_,cW [(0,0)] [] [] rfl rfl rfl (by kernel_rfl) (sp4) (by repeat' (first|exact trivial|exact Lent.refl _|exact Lent.norm _|exact Lent.whole rfl rfl (by first|rfl|exact List.length_append.symm|exact hlenR|simp) rfl (by first|exact .inl rfl|exact .inr rfl)|apply And.intro)) rfl ⟨rfl,rfl,rfl,rfl,rfl,by repeat' (first|exact trivial|rfl|apply And.intro),rfl,rfl⟩,?_⟩;conv=>whnf)
    refine gGo ?_;(refine⟨_,_,_,cW [(0,0)] [] [] rfl rfl rfl (by kernel_rfl) (sp5) (by repeat' (first|exact trivial|exact Lent.refl _|exact Lent.norm _|exact Lent.whole rfl rfl (by first|rfl|exact List.length_append.symm|exact hlenR|simp) rfl (by first|exact .inl rfl|exact .inr rfl)|apply And.intro)) rfl ⟨rfl,rfl,rfl,rfl,rfl,by repeat' (first|exact trivial|rfl|apply And.intro),rfl,rfl⟩,?_⟩;conv=>whnf)
    refine gT (fun hb=>?_) fun hb=>?_
    ·have hc:iu l q=(⟨true,[]⟩,aM l (aM l q)):=by unfold iu;rw[if_pos hb]
     rw[hc] at hxe hcellok;refine gGo ?_;refine⟨⟨ao rfl au,rfl⟩,bc (n:=(aj xs).length+1) (b:=24) (by omega) (by omega),.inl ⟨rfl,rfl,?_⟩⟩;(conv=>whnf);refine gGo ?_;refine⟨_,_,?_,⟨i+1,_,xs++[_],by omega,hcellok,by simp;omega,(by rw[hxe,List.append_cons]),rfl,rfl⟩,[(0,0),(90,90),(7,7),(91,91),(9,9),(92,92)],[],[],LeG.mq (.ci 0 (.ci 90 (.ci 7 (.ci 91 (.cons 9 rfl rfl (.refl _) ?_ (.cons 92 rfl rfl (.refl _) ?_ .nil))))))⟩
     ·omega
     ·rw[cG,List.length_append];rfl
     ·rw[cG];rfl
    ·have hc:iu l q=(⟨false,pD oO l q⟩,aM l (aM l q)):=by unfold iu;rw[if_neg hb]
     rw[hc] at hxe hcellok;refine gGo ?_;refine⟨⟨ao rfl au,rfl⟩,bc (n:=(aj xs).length+1) (b:=24) (by omega) (by omega),.inl ⟨rfl,rfl,?_⟩⟩;(conv=>whnf);refine gGo ?_;refine⟨_,_,?_,⟨i+1,_,xs++[_],by omega,hcellok,by simp;omega,(by rw[hxe,List.append_cons]),rfl,rfl⟩,[(0,0),(90,90),(7,7),(91,91),(9,9),(92,92)],[],[],LeG.mq (.ci 0 (.ci 90 (.ci 7 (.ci 91 (.cons 9 rfl rfl (.refl _) ?_ (.cons 92 rfl rfl (.refl _) ?_ .nil))))))⟩
     ·omega
     ·rw[cG,List.length_append];rfl
     ·rw[cG];rfl
   ·have hie:i=1+R:=by omega
    rw[hie,Nat.sub_self] at hxe;simp only[seqF,List.append_nil] at hxe;rw[hxe] at hce hcok;clear hxe;refine W.leG (mp:=[(0,0),(90,90),(7,7),(91,91),(9,9)]) (bo:=[92]) (st':=⟨[(0,.bp 0 0),(5,.osl 90 0 0 (aa out).length (aa out).length),(15,.int .i64 (2+(N:Int))),(16,.int .i64 k),(7,.bp 7 0),(8,.int .i64 (1+(R:Int))),(27,.int .i64 (1+(M:Int))),(28,.int .i64 j),(9,.bp 9 0),(36,.bool false)],[(0,[ed l q]),(90,[.rows 3 (aa out) (some [])]),(7,[.rows 3 [[.int .i64 ((k:Int)+1),.str [106],.osl 91 0 0 (ai cs).length (ai cs).length]] none]),(91,[.rows 2 (ai cs) (some [])]),(9,[.rows 2 [Column.row ⟨nm,xs⟩] none])],[0,90,7,91,9]⟩)
     (LeG.mq (.ci 0 (.ci 90 (.ci 7 (.ci 91 (.cons 9 (b1:=.rows 2 [Column.row ⟨nm,xs⟩] none) rfl rfl (.rows _ _ _ (by repeat' (first|exact trivial|exact⟨Lent.refl _,rfl⟩|exact⟨Lent.norm _,rfl⟩|exact⟨Lent.whole rfl rfl (by first|rfl|exact List.length_append.symm|exact hlenR|simp) rfl (by first|exact .inl rfl|exact .inr rfl),rfl⟩|apply And.intro))) rfl .nil)))))) ?_
    refine gGo ?_;refine⟨⟨ao rfl au,rfl⟩,bc (n:=(ai cs).length+1) (b:=40) (by omega) (by omega),.inl ⟨rfl,rfl,?_⟩⟩;(conv=>whnf);refine gGo ?_;refine⟨_,_,?_,⟨j+1,_,cs++[_],by omega,hcok,by simp;omega,(by rw[hce,List.append_cons]),rfl,rfl⟩,[(0,0),(90,90),(7,7),(91,91)],[],[],LeG.mq (.ci 0 (.ci 90 (.cons 7 rfl rfl (.refl _) ?_ (.cons 91 rfl rfl (.refl _) ?_ .nil))))⟩
    ·omega
    ·rw[dD,List.length_append];rfl
    ·rw[dD];rfl
  ·have hje:j=1+M:=by omega
   rw[hje,Nat.sub_self] at hce;simp only[seqF,List.append_nil] at hce;rw[hce] at he htok;clear hce;refine W.leG (mp:=[(0,0),(90,90),(7,7)]) (bo:=[91]) (st':=⟨[(0,.bp 0 0),(5,.osl 90 0 0 (aa out).length (aa out).length),(15,.int .i64 (2+(N:Int))),(16,.int .i64 k),(7,.bp 7 0),(29,.bool false)],[(0,[ed l q]),(90,[.rows 3 (aa out) (some [])]),(7,[.rows 3 [Table.row ⟨(k+1:Nat),[106],cs⟩] none])],[0,90,7]⟩)
    (LeG.mq (.ci 0 (.ci 90 (.cons 7 (b1:=.rows 3 [Table.row ⟨(k+1:Nat),[106],cs⟩] none) rfl rfl (.rows _ _ _ (by repeat' (first|exact trivial|exact⟨Lent.refl _,rfl⟩|exact⟨Lent.norm _,rfl⟩|exact⟨Lent.whole rfl rfl (by first|rfl|exact List.length_append.symm|exact hlenR|simp) rfl (by first|exact .inl rfl|exact .inr rfl),rfl⟩|apply And.intro))) rfl .nil)))) ?_
   refine gGo ?_;refine⟨⟨ao rfl au,rfl⟩,bc (n:=(aa out).length+1) (b:=48) (by omega) (by omega),.inl ⟨rfl,rfl,?_⟩⟩;(conv=>whnf);refine gGo ?_;refine⟨_,_,?_,⟨k+1,_,out++[_],by omega,htok,by simp;omega,(by rw[he,List.append_cons]),rfl,rfl⟩,[(0,0),(90,90)],[],[],?_⟩
   ·omega
   ·rw[j8,List.length_append];exact LeG.mq (.ci 0 (.ci 90 .nil))
 ·have hke:k=2+N:=by omega
  rw[hke,Nat.sub_self] at he;simp only[seqF,List.append_nil] at he;rw[he];refine gGo ?_;(refine gM ?_;conv=>whnf);exact retH rfl (.refl _) rfl rfl rfl ⟨rfl,rfl,rfl,rfl,trivial⟩
theorem Cm(l:List Table)(hv:bO l=true)(hl:l.length≤100):Spec Tryz.prog 29 [.sl (aa l) false,.agg (eJ 0 1)] [] (.tup [.osl 90 0 0 (aA (k6 l)).length (aA (k6 l)).length,.int .i64 0]) [(90,.rows 11 (aA (k6 l)) (some []))]:=by
 have spV:=fZ l;rw[hv] at spV;have sp0:=pE;have sp1:=k5 0 1 DH;have sp2:=rI 1 (by decide);have sp3:=k5 (bZ 1 1).1 (bZ 1 1).2 (xu (by decide) (by decide) (by decide));have hal:=fN hv;have hcols:∀b∈l,b.cols.length≤64:=fun b hb=>by
  have:=hal b hb;unfold aR eg at this;simp only[Bool.and_eq_true,decide_eq_true_eq] at this;exact this.1.1.2
 have htl:=aP l;generalize (bZ 1 1).1=p1 at *;generalize (bZ 1 1).2=q1 at *;refine gEn env Tryz.func29 fun Γ hN hK hML=>?_;refine gGo ?_;(refine gPC (spV) ?_;conv=>whnf);refine gGo ?_;(refine gPC (sp0) ?_;conv=>whnf);refine gGo ?_;(refine gPC (sp1) ?_;conv=>whnf);refine gGo ?_;(refine gPC (sp2) ?_;conv=>whnf);refine gGo ?_;(refine gPC (sp3) ?_;conv=>whnf);refine gGo ?_;intros;refine W.ownNil 6 90 11 rfl rfl ?_;refine W.leG (mp:=[(3,3),(90,90)]) (bo:=[]) (st':=⟨[(0,.sl (aa l) false),(3,.bp 3 0),(6,.osl 90 0 0 0 0),(28,.sl (aa l) false),(29,.int .i64 (aa l).length),(30,.int .i64 0)],[(3,[.rows 4 [eJ 0 1] none]),(90,[.rows 11 [] (some [])])],[3,90]⟩)
  (LeG.mq (.ci 3 (.ci 90 .nil))) ?_
 refine W.loopG (fun n st=>∃(k:Nat) (out:List (List Int)),k≤l.length∧out=pG l k∧n=l.length-k∧st=⟨[(0,.sl (aa l) false),(3,.bp 3 0),(6,.osl 90 0 0 (aA out).length (aA out).length),(28,.sl (aa l) false),(29,.int .i64 (aa l).length),(30,.int .i64 k)],[(3,[.rows 4 [eJ 0 1] none]),(90,[.rows 11 (aA out) (some [])])],[3,90]⟩)
  l.length _ ⟨0,[],by omega,rfl,by omega,rfl⟩ gX ?_
 rintro n st ⟨k,o1,hk,ho1,rfl,rfl⟩;refine gT (fun hb=>?_) fun hb=>?_
 ·have hkl:k<l.length:=by omega
  have hg:=bi hkl;have hak:=hal _ (List.getElem_mem hkl);have hck:=hcols _ (List.getElem_mem hkl);have hgd:l.getD k Table.zero=l[k]:=by simp[hkl]
  generalize ha:l[k]=a at *;refine g ?_;have hb1:=BT hcols hl (show k≤l.length by omega);rw[←ho1] at hb1;refine gGo ?_;intros;refine W.loopG (fun n st=>∃(i:Nat) (out:List (List Int)),i≤a.cols.length∧out=o1++kx l k i∧n=a.cols.length-i∧st=⟨[(0,.sl (aa l) false),(3,.bp 3 0),(6,.osl 90 0 0 (aA out).length (aA out).length),(28,.sl (aa l) false),(29,.int .i64 (aa l).length),(30,.int .i64 k),(7,.int .i64 k),(8,.bp 8 0),(36,.sl (ai a.cols) false),(37,.int .i64 (ai a.cols).length),(38,.int .i64 i)],[(3,[.rows 4 [eJ 0 1] none]),(90,[.rows 11 (aA out) (some [])]),(8,[.rows 3 [a.row] none])],[3,90,8]⟩)
   a.cols.length _ ⟨0,o1,by omega,by simp[kx],by omega,rfl⟩ gX ?_
  rintro n st ⟨i,o2,hi,ho2,rfl,rfl⟩;have hal2:=aB a.cols;refine gT (fun hb=>?_) fun hb=>?_
  ·have hil:i<a.cols.length:=by omega
   have hb2:o2.length≤100*409600+64*6400:=by
    have:=uv hcols hl k i;rw[ho2,List.length_append];omega
   obtain⟨bs,hbs⟩:∃bs,bs=l.drop (k+1):=⟨_,rfl⟩
   have hbl:bs.length=l.length-(k+1):=by rw[hbs,List.length_drop]
   have hbm:∀b∈bs,b∈l:=fun b hb=>by rw[hbs] at hb;exact List.mem_of_mem_drop hb
   have hbt:=aP bs;have hdr:((aa l).take ((aa l).length:Int).toNat).drop (((k:Int)+1).toNat)=aa bs:=by
    rw[Int.toNat_natCast,List.take_length,show((k:Int)+1).toNat=k+1 by omega,hbs];unfold aa;rw[List.map_drop]
   refine gGo ?_;refine⟨zo l,?_⟩;(conv=>whnf);rw[hdr];refine gGo ?_;intros;refine W.loopG (fun n st=>∃(m:Nat) (out:List (List Int)),m≤bs.length∧out=o2++jp a i (bs.take m)∧n=bs.length-m∧st=⟨[(0,.sl (aa l) false),(3,.bp 3 0),(6,.osl 90 0 0 (aA out).length (aA out).length),(28,.sl (aa l) false),(29,.int .i64 (aa l).length),(30,.int .i64 k),(7,.int .i64 k),(8,.bp 8 0),(36,.sl (ai a.cols) false),(37,.int .i64 (ai a.cols).length),(38,.int .i64 i),(9,.int .i64 i),(44,.sl (aa bs) false),(45,.int .i64 (aa bs).length),(46,.int .i64 m)],[(3,[.rows 4 [eJ 0 1] none]),(90,[.rows 11 (aA out) (some [])]),(8,[.rows 3 [a.row] none])],[3,90,8]⟩)
    bs.length _ ⟨0,o2,by omega,by simp[jp],by omega,rfl⟩ gX ?_
   rintro n st ⟨m,o3,hm,ho3,rfl,rfl⟩;refine gT (fun hb=>?_) fun hb=>?_
   ·have hml:m<bs.length:=by omega
    have hgm:=bi hml;have hbk:=hal _ (hbm _ (List.getElem_mem hml));have hcb:=hcols _ (hbm _ (List.getElem_mem hml));have hb3:o3.length≤100*409600+64*6400+100*64:=by
     have:=uu a i (bs:=bs.take m) (fun b hb=>hcols _ (hbm _ (List.mem_of_mem_take hb)));rw[List.length_take] at this;rw[ho3,List.length_append];omega
    have htk:bs.take (m+1)=bs.take m++[bs[m]]:=List.take_succ_eq_append_getElem hml;generalize bs[m]=b at *;have hbl2:=aB b.cols;(refine g ?_;intros);refine W.loopG (fun n st=>∃(j:Nat) (out:List (List Int)),j≤b.cols.length∧out=o3++l7 a i b j∧n=b.cols.length-j∧st=⟨[(0,.sl (aa l) false),(3,.bp 3 0),(6,.osl 90 0 0 (aA out).length (aA out).length),(28,.sl (aa l) false),(29,.int .i64 (aa l).length),(30,.int .i64 k),(7,.int .i64 k),(8,.bp 8 0),(36,.sl (ai a.cols) false),(37,.int .i64 (ai a.cols).length),(38,.int .i64 i),(9,.int .i64 i),(44,.sl (aa bs) false),(45,.int .i64 (aa bs).length),(46,.int .i64 m),(11,.bp 11 0),(51,.sl (ai b.cols) false),(52,.int .i64 (ai b.cols).length),(53,.int .i64 j)],[(3,[.rows 4 [eJ 0 1] none]),(90,[.rows 11 (aA out) (some [])]),(8,[.rows 3 [a.row] none]),(11,[.rows 3 [b.row] none])],[3,90,8,11]⟩)
     b.cols.length _ ⟨0,o3,by omega,by simp[l7],by omega,rfl⟩ gX ?_
    rintro n st ⟨j,out,hj,hout,rfl,rfl⟩;have hrl:=eK out;refine gT (fun hb=>?_) fun hb=>?_
    ·have hjl:j<b.cols.length:=by omega
     have hb4:out.length≤100*409600+64*6400+100*64+64:=by
      have:=oT a i b j;rw[hout,List.length_append];omega
     have spO:=BQ a i b j;obtain⟨x,y,r6,r7,r8,r9,r10,hof,hx,hy⟩:=BU hak hbk hil hjl;have hnx:l7 a i b (j+1)=l7 a i b j++pF a i b j:=fw _ _;have hC:pF a i b j=if 0<(x:Int) then [[a.id,(i:Int),b.id,(j:Int),(x:Int),(y:Int),r6,r7,r8,r9,r10]] else []:=by
      unfold pF;rw[hof];rfl
     rw[hof] at spO;by_cases hx0:x=0
     ·subst hx0;rw[if_neg (by decide)] at hC;refine g ?_;exact gZ ⟨j+1,out,by omega,(by rw[hout,hnx,hC,List.append_nil]),rfl,rfl⟩
     ·rw[if_pos (by omega)] at hC;have spC:=rJ a.id i b.id j r6 r7 r8 r9 r10 x y hx0 hx hy;have spL:=k5 (bZ x (x+y)).1 (bZ x (x+y)).2 (xu (by omega) (by omega) (by omega));generalize (bZ x (x+y)).1=p2 at *;generalize (bZ x (x+y)).2=q2 at *;refine g ?_;refine⟨⟨ao rfl au,rfl⟩,bc (n:=(aA out).length+1) (b:=88) (by omega) (by omega),.inl ⟨rfl,rfl,?_⟩⟩;(conv=>whnf);refine gGo ?_;refine⟨_,_,?_,⟨j+1,out++[[a.id,(i:Int),b.id,(j:Int),(x:Int),(y:Int),r6,r7,r8,r9,r10]],by omega,(by rw[hout,hnx,hC,List.append_assoc]),rfl,rfl⟩,[(3,3),(90,90),(8,8),(11,11)],[],[],?_⟩
      ·omega
      ·rw[kc,List.length_append];exact LeG.mq (.ci 3 (.ci 90 (.ci 8 (.ci 11 .nil))))
    ·have hje:j=b.cols.length:=by omega
     subst hje;refine gGo ?_;exact gZ ⟨m+1,out,by omega,(by rw[hout,ho3,htk,zH,List.append_assoc]),rfl,rfl⟩
   ·have hme:m=bs.length:=by omega
    subst hme;refine gGo ?_;exact gZ ⟨i+1,o3,by omega,(by rw[ho3,List.take_length,ho2,List.append_assoc,zI,hgd,←hbs]),rfl,rfl⟩
  ·have hie:i=a.cols.length:=by omega
   subst hie;refine gGo ?_;exact gZ ⟨k+1,o2,by omega,(by rw[ho2,ho1,zJ,hgd]),rfl,rfl⟩
 ·have hke:k=l.length:=by omega
  subst hke;rw[show k6 l=o1 from ho1.symm];refine gGo ?_;(refine gM ?_;conv=>whnf);exact retH rfl (.refl _) rfl rfl rfl ⟨rfl,rfl,trivial⟩
theorem Cn(l:List Table)(hv:bO l=true)(hl:l.length≤100):Spec Tryz.prog 11 [.sl (aa l) false] [] (.osl 90 0 0 (aA (k6 l)).length (aA (k6 l)).length) [(90,.rows 11 (aA (k6 l)) (some []))]:=by
 have sp1:=pE;have sp2:=Cm l hv hl;refine gEn env Tryz.func11 fun Γ hN hK hML=>?_;refine g ?_;(refine gCA [] [(90,90)] [] (sp2) ?_;conv=>whnf);refine gGr ?_;exact retH rfl (.refl _) rfl rfl rfl ⟨rfl,rfl,trivial⟩
theorem Eg(E:List (List Int)):((aA E).all fun r=>f5 r)=true:=by
 refine List.all_eq_true.2 fun r hr=>?_;obtain⟨x,_,rfl⟩:=List.mem_map.1 hr;have:∀x:List Int,f5 (eV x)=true:=by
  intro x
  induction x with
  |nil=>rfl
  |cons a x ih=>exact ih
 exact this x
end Go.Sx.Sp
namespace Go.Sx.Sp
open Go Go.Sx Go.Proofs Go.Sort
attribute [local irreducible] aO famL
end Go.Sx.Sp
namespace Go.Sx.Sp
open Go Go.Sx Go.Proofs
attribute [local irreducible] aO famL
theorem Co{l:List Table}(h:∀b∈l,b.cols.length≤2)(hl:l.length≤4):(k6 l).length≤64:=by
 have h1:∀k n,(kx l k n).length≤n*8:=fun k n=>by
  have:=gh (fun i=>jp (l.getD k Table.zero) i (l.drop (k+1))) 8 (List.range n) (fun i _=>by
   have:=gh (fun b:Table=>l7 (l.getD k Table.zero) i b b.cols.length) 2 (l.drop (k+1)) fun b hb=>Nat.le_trans (oT _ i b _) (h b (List.mem_of_mem_drop hb))
   rw[List.length_drop] at this
   show(jp (l.getD k Table.zero) i (l.drop (k+1))).length≤8
   unfold jp
   omega)
  rwa [List.length_range] at this
 have:=gh (fun k=>kx l k (l.getD k Table.zero).cols.length) 16 (List.range l.length) (fun k hk=>by
  have hk:=List.mem_range.1 hk
  have h1:=h1 k (l.getD k Table.zero).cols.length
  have h2:(l.getD k Table.zero).cols.length≤2:=by
   rw[List.getD_eq_getElem?_getD,List.getElem?_eq_getElem (show k<l.length by omega)]
   exact h _ (List.getElem_mem _)
  show(kx l k (l.getD k Table.zero).cols.length).length≤16
  omega)
 rw[List.length_range] at this;show(pG l l.length).length≤64;unfold pG;omega
end Go.Sx.Sp
namespace Go.Sx.Sp
open Go Go.Sx Go.Proofs Go.Sort
attribute [local irreducible] aO famL
def atT(p:Pth)(j:Nat):Int:=((p.steps.take j).map Stp.tt).getLastD p.start
theorem E6(p:Pth)(j:Nat):atT p j∈befT p j:=by
 unfold atT befT;generalize (p.steps.take j).map Stp.tt=l;cases l with
 |nil=>exact List.mem_cons_self
 |cons a l=>rw[List.getLastD_eq_getLast?,List.getLast?_eq_some_getLast (by simp)];exact List.mem_cons_of_mem _ (List.getLast_mem _)
theorem mR{W:Int→List Stp}{dst from_:Int}:∀(k:Nat) (way:List Stp) (at_:Int) (x:Pth),x∈simL W dst from_ k way at_→at_=(way.map Stp.tt).getLastD from_ →
  (x.steps.map Stp.tt).getLastD from_=dst∧∀(j:Nat) s,x.steps[j]?=some s→way.length≤j→s∈W (atT x j)∧s.tt∉befT x j
 | 0,way,at_,x,hx,ha=>by
  unfold simL at hx;split at hx
  ·rename_i hd;simp only[List.mem_singleton] at hx;subst hx;refine⟨by rw[←hd,ha],fun j s hj hl=>?_⟩;rw[List.getElem?_eq_none hl] at hj;cases hj
  ·cases hx
 |k+1,way,at_,x,hx,ha=>by
  unfold simL at hx;split at hx
  ·rename_i hd;simp only[List.mem_singleton] at hx;subst hx;refine⟨by rw[←hd,ha],fun j s hj hl=>?_⟩;rw[List.getElem?_eq_none hl] at hj;cases hj
  ·obtain⟨s,hs,hx⟩:=List.mem_flatMap.1 hx;split at hx
   ·cases hx
   ·rename_i hns;obtain⟨h1,⟨r,h2⟩,_⟩:=jw k _ _ x hx;obtain⟨g1,g2⟩:=mR k _ _ x hx (by rw[List.map_append,List.map_singleton,List.getLastD_concat]);refine⟨g1,fun j u hj hl=>?_⟩;rcases Nat.lt_or_ge way.length j with h|h
    ·exact g2 j u hj (by rw[List.length_append,List.length_singleton];omega)
    ·have e:j=way.length:=by omega
     subst e;have e1:x.steps.take way.length=way:=by rw[←h2,List.append_assoc,List.take_left]
     have e2:x.steps[way.length]?=some s:=by rw[←h2,List.append_assoc,List.getElem?_append_right (Nat.le_refl _)];simp
     rw[e2] at hj;cases hj;unfold atT befT;rw[e1,h1,←ha];exact⟨hs,hns⟩
theorem E7{l:List Table}{s:Stp}(h:okE l s=true):(getC l s.ft s.fc).isSome=true∧(getC l s.tt s.tc).isSome=true:=by
 unfold okE at h;simp only[Bool.and_eq_true] at h;exact h.1
theorem ya{l:List Table}{E:List Stp}{t:Int}{x:Stp}(h:x∈wayW l E t):(getC l x.ft x.fc).isSome=true∧(getC l x.tt x.tc).isSome=true:=by
 obtain⟨s,_,h1,h2⟩:=eZ.1 h;have:=E7 h1;rcases h2 with⟨_,rfl⟩|⟨_,rfl⟩
 ·exact this
 ·exact⟨this.2,this.1⟩
theorem tB{l:List Table}{E:List (List Int)}{from_ dst:Int}{k:Nat}{x:Pth}(hl:bO l=true)(hf:(bL l from_).isSome=true)(hk:k≤4)(hx:x∈iR l E from_ dst k) :
  aD l x=0∧x.start=from_∧x.steps.length≤k:=by
 have hx':x∈simL (wayW l (bh E)) dst from_ k [] from_:=hx;obtain⟨h1,_,h3⟩:=jw _ _ _ _ hx';obtain⟨_,g⟩:=mR _ _ _ _ hx' rfl;simp only[List.length_nil,Nat.zero_add] at h3;refine⟨?_,h1,h3⟩;unfold aD;rw[if_pos hl,if_pos (by omega),if_pos];refine mD (h1 ▸ hf) fun j hj=>?_;have hj':=List.getElem?_eq_getElem hj;obtain⟨a,b⟩:=g j _ hj' (Nat.zero_le _);have c:=ya a;have d:=AT a;unfold io;rw[hj'];simp only[Bool.and_eq_true,Bool.not_eq_true',decide_eq_true_eq,decide_eq_false_iff_not];exact⟨c.1,c.2,by rw[d];exact E6 x j,b⟩
end Go.Sx.Sp
