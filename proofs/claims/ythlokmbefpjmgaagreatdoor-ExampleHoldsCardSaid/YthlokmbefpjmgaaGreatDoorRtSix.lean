/- Relations as owned slices; routes are valid paths. -/
import Derived.Test.YthlokmbefpjmgaaGreatDoorJSix
import Derived.Test.YthlokmbefpjmgaaGreatDoorSxFive
import Derived.Test.YthlokmbefpjmgaaGreatDoorRtFive
import Derived.Test.YthlokmbefpjmgaaGreatDoorJFour
import Derived.Test.YthlokmbefpjmgaaGreatDoorSxFour
set_option linter.unusedVariables false
set_option linter.unusedSimpArgs false
namespace Go.Sx.Sp
open Go Go.Sx Go.Proofs
attribute [local irreducible] GoodW famL
set_option maxHeartbeats 16000000 in
theorem joined_own (l:List Int) (most:Int) (p:Nat) (hm:2≤most∧most≤100) (hp:p≤l.length):Spec Tryz.prog 10 [.bp 0 0,.int .i64 most] [(0,diceB l p)] (.osl 90 0 0 (tblRows (joinedF l most p).1).length (tblRows (joinedF l most p).1).length) [(0,diceB l (joinedF l most p).2),(90,.rows 3 (tblRows (joinedF l most p).1) (some []))]:=by
 have hp1:=nextP_le hp;have sp0:=next_spec l p (most-1) (by omega) hp;have hr:=nextV_range l p (n:=most-1) (by omega);have hres:joinedF l most p=seqF (fun k q=>tabJ l k q) (2+(nextV l p (most-1)).toNat) 0 (nextP l p):=rfl;obtain ⟨N,hN⟩:=Int.eq_ofNat_of_zero_le hr.1;rw [hN] at sp0 hr hres;rw [Int.toNat_natCast] at hres;generalize nextP l p=p1 at *;generalize joinedF l most p=res at *;refine gEn env Tryz.func10 fun Γ hN hK hML=>?_;refine gGo ?_;(refine ⟨_,_,_,callG [(0,0)] [] [] rfl rfl rfl (by kernel_rfl) (sp0) (by repeat' (first | exact trivial | exact Lent.refl _ | exact Lent.norm _ | exact Lent.whole rfl rfl (by first | rfl | exact List.length_append.symm | exact hlenR | simp) rfl (by first | exact .inl rfl | exact .inr rfl) | apply And.intro)) rfl ⟨rfl,rfl,rfl,rfl,rfl,by repeat' (first | exact trivial | rfl | apply And.intro),rfl,rfl⟩,?_⟩;conv=>whnf);refine gGo ?_;refine W.ownNil 5 90 3 rfl rfl ?_;refine W.loopG (fun m st=>∃ (k q:Nat) (out:List Table),k≤2+N∧q≤l.length∧out.length=k∧res=(out++(seqF (fun k q=>tabJ l k q) (2+N-k) k q).1,(seqF (fun k q=>tabJ l k q) (2+N-k) k q).2)∧m=2+N-k∧st=⟨[(0,.bp 0 0),(5,.osl 90 0 0 (tblRows out).length (tblRows out).length),(15,.int .i64 (2+(N:Int))),(16,.int .i64 k)],[(0,[diceB l q]),(90,[.rows 3 (tblRows out) (some [])])],[0,90]⟩)
  (2+N) _ ⟨0,p1,[],by omega,hp1,rfl,hres,by omega,rfl⟩ gX ?_
 rintro m st ⟨k,q,out,hk,hq,ho,he,rfl,rfl⟩;have hol:=tblRows_len out;refine gT (fun hb=>?_) fun hb=>?_
 ·have hkl:k<2+N:=by omega
  have hq1:=nextP_le hq;have hq2:=nextP_le hq1;have sp1:=next_spec l q 5 (by omega) hq;have hr1:=nextV_range l q (n:=5) (by omega);have sp2:=next_spec l (nextP l q) 2 (by omega) hq1;have hr2:=nextV_range l (nextP l q) (n:=2) (by omega);have hT:tabJ l k q=(⟨(k+1:Nat),[106],(seqF (fun _ q'=>colJ l (1+(nextV l q 5).toNat) q') (1+(nextV l (nextP l q) 2).toNat) 0 (nextP l (nextP l q))).1⟩,(seqF (fun _ q'=>colJ l (1+(nextV l q 5).toNat) q') (1+(nextV l (nextP l q) 2).toNat) 0 (nextP l (nextP l q))).2):=rfl;have htok:=(tabJ_ok (l:=l) (k:=k) hq).2;obtain ⟨R,hR⟩:=Int.eq_ofNat_of_zero_le hr1.1;obtain ⟨M,hM⟩:=Int.eq_ofNat_of_zero_le hr2.1;rw [hR] at sp1 hr1 hT;rw [hM] at sp2 hr2 hT;rw [Int.toNat_natCast,Int.toNat_natCast] at hT;generalize hC:seqF (fun _ q=>colJ l (1+R) q) (1+M) 0 (nextP l (nextP l q))=C at hT;generalize nextP l (nextP l q)=q2 at *;generalize nextP l q=q1 at *;rw [show 2+N-k=(2+N-(k+1))+1 by omega] at he;simp only [seqF] at he;rw [hT] at he htok;clear hT hR hM;refine gGo ?_;(refine ⟨_,_,_,callG [(0,0)] [] [] rfl rfl rfl (by kernel_rfl) (sp1) (by repeat' (first | exact trivial | exact Lent.refl _ | exact Lent.norm _ | exact Lent.whole rfl rfl (by first | rfl | exact List.length_append.symm | exact hlenR | simp) rfl (by first | exact .inl rfl | exact .inr rfl) | apply And.intro)) rfl ⟨rfl,rfl,rfl,rfl,rfl,by repeat' (first | exact trivial | rfl | apply And.intro),rfl,rfl⟩,?_⟩;conv=>whnf);refine gGo ?_;(refine ⟨_,_,_,callG [(0,0)] [] [] rfl rfl rfl (by kernel_rfl) (sp2) (by repeat' (first | exact trivial | exact Lent.refl _ | exact Lent.norm _ | exact Lent.whole rfl rfl (by first | rfl | exact List.length_append.symm | exact hlenR | simp) rfl (by first | exact .inl rfl | exact .inr rfl) | apply And.intro)) rfl ⟨rfl,rfl,rfl,rfl,rfl,by repeat' (first | exact trivial | rfl | apply And.intro),rfl,rfl⟩,?_⟩;conv=>whnf);refine gGo ?_;refine W.ownCell 7 0 2 91 2 rfl rfl rfl rfl rfl ?_;refine W.loopG (fun m st=>∃ (j q:Nat) (cs:List Column),j≤1+M∧q≤l.length∧cs.length=j∧C=(cs++(seqF (fun _ q=>colJ l (1+R) q) (1+M-j) j q).1,(seqF (fun _ q=>colJ l (1+R) q) (1+M-j) j q).2)∧m=1+M-j∧st=⟨[(0,.bp 0 0),(5,.osl 90 0 0 (tblRows out).length (tblRows out).length),(15,.int .i64 (2+(N:Int))),(16,.int .i64 k),(7,.bp 7 0),(8,.int .i64 (1+(R:Int))),(27,.int .i64 (1+(M:Int))),(28,.int .i64 j)],[(0,[diceB l q]),(90,[.rows 3 (tblRows out) (some [])]),(7,[.rows 3 [[.int .i64 ((k:Int)+1),.str [106],.osl 91 0 0 (colRows cs).length (colRows cs).length]] none]),(91,[.rows 2 (colRows cs) (some [])])],[0,90,7,91]⟩)
   (1+M) _ ⟨0,q2,[],by omega,hq2,rfl,hC.symm,by omega,rfl⟩ gX ?_
  clear hC hq2 sp1 sp2 hq1 hq;rintro m st ⟨j,q,cs,hj,hq,hcs,hce,rfl,rfl⟩;have hcl:=colRows_len cs;refine gT (fun hb=>?_) fun hb=>?_
  ·have hjl:j<1+M:=by omega
   have hq1:=nextP_le hq;obtain ⟨_,sp3⟩:=wordF_spec (ws:=jNames) (by decide) (by decide) hq;have hcd:colJ l (1+R) q=(⟨wordF jNames l q,(seqF (fun _ q=>cellJ l q) (1+R) 0 (nextP l q)).1⟩,(seqF (fun _ q=>cellJ l q) (1+R) 0 (nextP l q)).2):=rfl;have hcok:=(colJ_ok (l:=l) (n:=1+R) hq).2;rw [show 1+M-j=(1+M-(j+1))+1 by omega] at hce;simp only [seqF] at hce;generalize hX:seqF (fun _ q=>cellJ l q) (1+R) 0 (nextP l q)=X at hcd;rw [hcd] at hce hcok;clear hcd;generalize nextP l q=q1 at *;generalize wordF jNames l q=nm at *;refine gGo ?_;(refine ⟨_,_,_,callG [(0,0)] [] [] rfl rfl rfl (by kernel_rfl) (sp3) (by repeat' (first | exact trivial | exact Lent.refl _ | exact Lent.norm _ | exact Lent.whole rfl rfl (by first | rfl | exact List.length_append.symm | exact hlenR | simp) rfl (by first | exact .inl rfl | exact .inr rfl) | apply And.intro)) rfl ⟨rfl,rfl,rfl,rfl,rfl,by repeat' (first | exact trivial | rfl | apply And.intro),rfl,rfl⟩,?_⟩;conv=>whnf);refine gGo ?_;refine W.ownCell 9 0 1 92 2 rfl rfl rfl rfl rfl ?_;refine W.loopG (fun m st=>∃ (i q:Nat) (xs:List Cell),i≤1+R∧q≤l.length∧xs.length=i∧X=(xs++(seqF (fun _ q=>cellJ l q) (1+R-i) i q).1,(seqF (fun _ q=>cellJ l q) (1+R-i) i q).2)∧m=1+R-i∧st=⟨[(0,.bp 0 0),(5,.osl 90 0 0 (tblRows out).length (tblRows out).length),(15,.int .i64 (2+(N:Int))),(16,.int .i64 k),(7,.bp 7 0),(8,.int .i64 (1+(R:Int))),(27,.int .i64 (1+(M:Int))),(28,.int .i64 j),(9,.bp 9 0),(34,.int .i64 (1+(R:Int))),(35,.int .i64 i)],[(0,[diceB l q]),(90,[.rows 3 (tblRows out) (some [])]),(7,[.rows 3 [[.int .i64 ((k:Int)+1),.str [106],.osl 91 0 0 (colRows cs).length (colRows cs).length]] none]),(91,[.rows 2 (colRows cs) (some [])]),(9,[.rows 2 [[.str nm,.osl 92 0 0 (cellRows xs).length (cellRows xs).length]] none]),(92,[.rows 2 (cellRows xs) (some [])])],[0,90,7,91,9,92]⟩)
    (1+R) _ ⟨0,q1,[],by omega,hq1,rfl,hX.symm,by omega,rfl⟩ gX ?_
   clear hX hq1 sp3 hq;rintro m st ⟨i,q,xs,hi,hq,hxs,hxe,rfl,rfl⟩;have hxl:=cellRows_len xs;refine gT (fun hb=>?_) fun hb=>?_
   ·have hil:i<1+R:=by omega
    obtain ⟨_,sp4⟩:=wordF_spec (ws:=jCells) (by decide) (by decide) hq;have sp5:=next_spec l (nextP l q) 9 (by omega) (nextP_le hq);have hcellok:=(cellJ_ok (l:=l) hq).2;rw [show 1+R-i=(1+R-(i+1))+1 by omega] at hxe;simp only [seqF] at hxe;refine gGo ?_;(refine ⟨_,_,_,callG [(0,0)] [] [] rfl rfl rfl (by kernel_rfl) (sp4) (by repeat' (first | exact trivial | exact Lent.refl _ | exact Lent.norm _ | exact Lent.whole rfl rfl (by first | rfl | exact List.length_append.symm | exact hlenR | simp) rfl (by first | exact .inl rfl | exact .inr rfl) | apply And.intro)) rfl ⟨rfl,rfl,rfl,rfl,rfl,by repeat' (first | exact trivial | rfl | apply And.intro),rfl,rfl⟩,?_⟩;conv=>whnf);refine gGo ?_;(refine ⟨_,_,_,callG [(0,0)] [] [] rfl rfl rfl (by kernel_rfl) (sp5) (by repeat' (first | exact trivial | exact Lent.refl _ | exact Lent.norm _ | exact Lent.whole rfl rfl (by first | rfl | exact List.length_append.symm | exact hlenR | simp) rfl (by first | exact .inl rfl | exact .inr rfl) | apply And.intro)) rfl ⟨rfl,rfl,rfl,rfl,rfl,by repeat' (first | exact trivial | rfl | apply And.intro),rfl,rfl⟩,?_⟩;conv=>whnf);refine gT (fun hb=>?_) fun hb=>?_
    ·have hc:cellJ l q=(⟨true,[]⟩,nextP l (nextP l q)):=by unfold cellJ;rw [if_pos hb]
     rw [hc] at hxe hcellok;refine gGo ?_;refine ⟨⟨rowsSz_cons rfl rowsSz_nil,rfl⟩,fitsN (n:=(cellRows xs).length+1) (b:=24) (by omega) (by omega),.inl ⟨rfl,rfl,?_⟩⟩;(conv=>whnf);refine gGo ?_;refine ⟨_,_,?_,⟨i+1,_,xs++[_],by omega,hcellok,by simp;omega,(by rw [hxe,List.append_cons]),rfl,rfl⟩,[(0,0),(90,90),(7,7),(91,91),(9,9),(92,92)],[],[],LeG.mq (.ci 0 (.ci 90 (.ci 7 (.ci 91 (.cons 9 rfl rfl (.refl _) ?_ (.cons 92 rfl rfl (.refl _) ?_ .nil))))))⟩
     ·omega
     ·rw [cellRows_snoc,List.length_append];rfl
     ·rw [cellRows_snoc];rfl
    ·have hc:cellJ l q=(⟨false,wordF jCells l q⟩,nextP l (nextP l q)):=by unfold cellJ;rw [if_neg hb]
     rw [hc] at hxe hcellok;refine gGo ?_;refine ⟨⟨rowsSz_cons rfl rowsSz_nil,rfl⟩,fitsN (n:=(cellRows xs).length+1) (b:=24) (by omega) (by omega),.inl ⟨rfl,rfl,?_⟩⟩;(conv=>whnf);refine gGo ?_;refine ⟨_,_,?_,⟨i+1,_,xs++[_],by omega,hcellok,by simp;omega,(by rw [hxe,List.append_cons]),rfl,rfl⟩,[(0,0),(90,90),(7,7),(91,91),(9,9),(92,92)],[],[],LeG.mq (.ci 0 (.ci 90 (.ci 7 (.ci 91 (.cons 9 rfl rfl (.refl _) ?_ (.cons 92 rfl rfl (.refl _) ?_ .nil))))))⟩
     ·omega
     ·rw [cellRows_snoc,List.length_append];rfl
     ·rw [cellRows_snoc];rfl
   ·have hie:i=1+R:=by omega
    rw [hie,Nat.sub_self] at hxe;simp only [seqF,List.append_nil] at hxe;rw [hxe] at hce hcok;clear hxe;refine W.leG (mp:=[(0,0),(90,90),(7,7),(91,91),(9,9)]) (bo:=[92]) (st':=⟨[(0,.bp 0 0),(5,.osl 90 0 0 (tblRows out).length (tblRows out).length),(15,.int .i64 (2+(N:Int))),(16,.int .i64 k),(7,.bp 7 0),(8,.int .i64 (1+(R:Int))),(27,.int .i64 (1+(M:Int))),(28,.int .i64 j),(9,.bp 9 0),(36,.bool false)],[(0,[diceB l q]),(90,[.rows 3 (tblRows out) (some [])]),(7,[.rows 3 [[.int .i64 ((k:Int)+1),.str [106],.osl 91 0 0 (colRows cs).length (colRows cs).length]] none]),(91,[.rows 2 (colRows cs) (some [])]),(9,[.rows 2 [Column.row ⟨nm,xs⟩] none])],[0,90,7,91,9]⟩)
     (LeG.mq (.ci 0 (.ci 90 (.ci 7 (.ci 91 (.cons 9 (b1:=.rows 2 [Column.row ⟨nm,xs⟩] none) rfl rfl (.rows _ _ _ (by repeat' (first | exact trivial | exact ⟨Lent.refl _,rfl⟩ | exact ⟨Lent.norm _,rfl⟩ | exact ⟨Lent.whole rfl rfl (by first | rfl | exact List.length_append.symm | exact hlenR | simp) rfl (by first | exact .inl rfl | exact .inr rfl),rfl⟩ | apply And.intro))) rfl .nil)))))) ?_
    refine gGo ?_;refine ⟨⟨rowsSz_cons rfl rowsSz_nil,rfl⟩,fitsN (n:=(colRows cs).length+1) (b:=40) (by omega) (by omega),.inl ⟨rfl,rfl,?_⟩⟩;(conv=>whnf);refine gGo ?_;refine ⟨_,_,?_,⟨j+1,_,cs++[_],by omega,hcok,by simp;omega,(by rw [hce,List.append_cons]),rfl,rfl⟩,[(0,0),(90,90),(7,7),(91,91)],[],[],LeG.mq (.ci 0 (.ci 90 (.cons 7 rfl rfl (.refl _) ?_ (.cons 91 rfl rfl (.refl _) ?_ .nil))))⟩
    ·omega
    ·rw [colRows_snoc,List.length_append];rfl
    ·rw [colRows_snoc];rfl
  ·have hje:j=1+M:=by omega
   rw [hje,Nat.sub_self] at hce;simp only [seqF,List.append_nil] at hce;rw [hce] at he htok;clear hce;refine W.leG (mp:=[(0,0),(90,90),(7,7)]) (bo:=[91]) (st':=⟨[(0,.bp 0 0),(5,.osl 90 0 0 (tblRows out).length (tblRows out).length),(15,.int .i64 (2+(N:Int))),(16,.int .i64 k),(7,.bp 7 0),(29,.bool false)],[(0,[diceB l q]),(90,[.rows 3 (tblRows out) (some [])]),(7,[.rows 3 [Table.row ⟨(k+1:Nat),[106],cs⟩] none])],[0,90,7]⟩)
    (LeG.mq (.ci 0 (.ci 90 (.cons 7 (b1:=.rows 3 [Table.row ⟨(k+1:Nat),[106],cs⟩] none) rfl rfl (.rows _ _ _ (by repeat' (first | exact trivial | exact ⟨Lent.refl _,rfl⟩ | exact ⟨Lent.norm _,rfl⟩ | exact ⟨Lent.whole rfl rfl (by first | rfl | exact List.length_append.symm | exact hlenR | simp) rfl (by first | exact .inl rfl | exact .inr rfl),rfl⟩ | apply And.intro))) rfl .nil)))) ?_
   refine gGo ?_;refine ⟨⟨rowsSz_cons rfl rowsSz_nil,rfl⟩,fitsN (n:=(tblRows out).length+1) (b:=48) (by omega) (by omega),.inl ⟨rfl,rfl,?_⟩⟩;(conv=>whnf);refine gGo ?_;refine ⟨_,_,?_,⟨k+1,_,out++[_],by omega,htok,by simp;omega,(by rw [he,List.append_cons]),rfl,rfl⟩,[(0,0),(90,90)],[],[],?_⟩
   ·omega
   ·rw [tblRows_snoc,List.length_append];exact LeG.mq (.ci 0 (.ci 90 .nil))
 ·have hke:k=2+N:=by omega
  rw [hke,Nat.sub_self] at he;simp only [seqF,List.append_nil] at he;rw [he];refine gGo ?_;(refine gM ?_;conv=>whnf);exact retH rfl (.refl _) rfl rfl rfl ⟨rfl,rfl,rfl,rfl,trivial⟩
set_option maxHeartbeats 32000000 in
theorem build_own (l:List Table) (hv:listB l=true) (hl:l.length≤100):Spec Tryz.prog 29 [.sl (tblRows l) false,.agg (fracV 0 1)] [] (.tup [.osl 90 0 0 (relRows (edges l)).length (relRows (edges l)).length,.int .i64 0]) [(90,.rows 11 (relRows (edges l)) (some []))]:=by
 have spV:=validList3_spec l;rw [hv] at spV;have sp0:=zero23_spec;have sp1:=less23_spec 0 1 zeroOK;have sp2:=int23_spec 1 (by decide);have sp3:=less23_spec (partF 1 1).1 (partF 1 1).2 (partF_ok (by decide) (by decide) (by decide));have hal:=listB_valid hv;have hcols:∀ b∈l,b.cols.length≤64:=fun b hb=>by
  have:=hal b hb;unfold validB headB at this;simp only [Bool.and_eq_true,decide_eq_true_eq] at this;exact this.1.1.2
 have htl:=tblRows_len l;generalize (partF 1 1).1=p1 at *;generalize (partF 1 1).2=q1 at *;refine gEn env Tryz.func29 fun Γ hN hK hML=>?_;refine gGo ?_;(refine gPC (spV) ?_;conv=>whnf);refine gGo ?_;(refine gPC (sp0) ?_;conv=>whnf);refine gGo ?_;(refine gPC (sp1) ?_;conv=>whnf);refine gGo ?_;(refine gPC (sp2) ?_;conv=>whnf);refine gGo ?_;(refine gPC (sp3) ?_;conv=>whnf);refine gGo ?_;intros;refine W.ownNil 6 90 11 rfl rfl ?_;refine W.leG (mp:=[(3,3),(90,90)]) (bo:=[]) (st':=⟨[(0,.sl (tblRows l) false),(3,.bp 3 0),(6,.osl 90 0 0 0 0),(28,.sl (tblRows l) false),(29,.int .i64 (tblRows l).length),(30,.int .i64 0)],[(3,[.rows 4 [fracV 0 1] none]),(90,[.rows 11 [] (some [])])],[3,90]⟩)
  (LeG.mq (.ci 3 (.ci 90 .nil))) ?_
 refine W.loopG (fun n st=>∃ (k:Nat) (out:List (List Int)),k≤l.length∧out=edgeL l k∧n=l.length-k∧st=⟨[(0,.sl (tblRows l) false),(3,.bp 3 0),(6,.osl 90 0 0 (relRows out).length (relRows out).length),(28,.sl (tblRows l) false),(29,.int .i64 (tblRows l).length),(30,.int .i64 k)],[(3,[.rows 4 [fracV 0 1] none]),(90,[.rows 11 (relRows out) (some [])])],[3,90]⟩)
  l.length _ ⟨0,[],by omega,rfl,by omega,rfl⟩ gX ?_
 rintro n st ⟨k,o1,hk,ho1,rfl,rfl⟩;refine gT (fun hb=>?_) fun hb=>?_
 ·have hkl:k<l.length:=by omega
  have hg:=tblRows_get hkl;have hak:=hal _ (List.getElem_mem hkl);have hck:=hcols _ (List.getElem_mem hkl);have hgd:l.getD k Table.zero=l[k]:=by simp [hkl]
  generalize ha:l[k]=a at *;refine g ?_;have hb1:=edgeL_len hcols hl (show k≤l.length by omega);rw [←ho1] at hb1;refine gGo ?_;intros;refine W.loopG (fun n st=>∃ (i:Nat) (out:List (List Int)),i≤a.cols.length∧out=o1++edgeA l k i∧n=a.cols.length-i∧st=⟨[(0,.sl (tblRows l) false),(3,.bp 3 0),(6,.osl 90 0 0 (relRows out).length (relRows out).length),(28,.sl (tblRows l) false),(29,.int .i64 (tblRows l).length),(30,.int .i64 k),(7,.int .i64 k),(8,.bp 8 0),(36,.sl (colRows a.cols) false),(37,.int .i64 (colRows a.cols).length),(38,.int .i64 i)],[(3,[.rows 4 [fracV 0 1] none]),(90,[.rows 11 (relRows out) (some [])]),(8,[.rows 3 [a.row] none])],[3,90,8]⟩)
   a.cols.length _ ⟨0,o1,by omega,by simp [edgeA],by omega,rfl⟩ gX ?_
  rintro n st ⟨i,o2,hi,ho2,rfl,rfl⟩;have hal2:=colRows_len a.cols;refine gT (fun hb=>?_) fun hb=>?_
  ·have hil:i<a.cols.length:=by omega
   have hb2:o2.length≤100*409600+64*6400:=by
    have:=edgeA_len hcols hl k i;rw [ho2,List.length_append];omega
   obtain ⟨bs,hbs⟩:∃ bs,bs=l.drop (k+1):=⟨_,rfl⟩
   have hbl:bs.length=l.length-(k+1):=by rw [hbs,List.length_drop]
   have hbm:∀ b∈bs,b∈l:=fun b hb=>by rw [hbs] at hb;exact List.mem_of_mem_drop hb
   have hbt:=tblRows_len bs;have hdr:((tblRows l).take ((tblRows l).length:Int).toNat).drop (((k:Int)+1).toNat)=tblRows bs:=by
    rw [Int.toNat_natCast,List.take_length,show ((k:Int)+1).toNat=k+1 by omega,hbs];unfold tblRows;rw [List.map_drop]
   refine gGo ?_;refine ⟨tblRows_sz l,?_⟩;(conv=>whnf);rw [hdr];refine gGo ?_;intros;refine W.loopG (fun n st=>∃ (m:Nat) (out:List (List Int)),m≤bs.length∧out=o2++edgeR a i (bs.take m)∧n=bs.length-m∧st=⟨[(0,.sl (tblRows l) false),(3,.bp 3 0),(6,.osl 90 0 0 (relRows out).length (relRows out).length),(28,.sl (tblRows l) false),(29,.int .i64 (tblRows l).length),(30,.int .i64 k),(7,.int .i64 k),(8,.bp 8 0),(36,.sl (colRows a.cols) false),(37,.int .i64 (colRows a.cols).length),(38,.int .i64 i),(9,.int .i64 i),(44,.sl (tblRows bs) false),(45,.int .i64 (tblRows bs).length),(46,.int .i64 m)],[(3,[.rows 4 [fracV 0 1] none]),(90,[.rows 11 (relRows out) (some [])]),(8,[.rows 3 [a.row] none])],[3,90,8]⟩)
    bs.length _ ⟨0,o2,by omega,by simp [edgeR],by omega,rfl⟩ gX ?_
   rintro n st ⟨m,o3,hm,ho3,rfl,rfl⟩;refine gT (fun hb=>?_) fun hb=>?_
   ·have hml:m<bs.length:=by omega
    have hgm:=tblRows_get hml;have hbk:=hal _ (hbm _ (List.getElem_mem hml));have hcb:=hcols _ (hbm _ (List.getElem_mem hml));have hb3:o3.length≤100*409600+64*6400+100*64:=by
     have:=edgeR_len a i (bs:=bs.take m) (fun b hb=>hcols _ (hbm _ (List.mem_of_mem_take hb)));rw [List.length_take] at this;rw [ho3,List.length_append];omega
    have htk:bs.take (m+1)=bs.take m++[bs[m]]:=List.take_succ_eq_append_getElem hml;generalize bs[m]=b at *;have hbl2:=colRows_len b.cols;(refine g ?_;intros);refine W.loopG (fun n st=>∃ (j:Nat) (out:List (List Int)),j≤b.cols.length∧out=o3++edgeB a i b j∧n=b.cols.length-j∧st=⟨[(0,.sl (tblRows l) false),(3,.bp 3 0),(6,.osl 90 0 0 (relRows out).length (relRows out).length),(28,.sl (tblRows l) false),(29,.int .i64 (tblRows l).length),(30,.int .i64 k),(7,.int .i64 k),(8,.bp 8 0),(36,.sl (colRows a.cols) false),(37,.int .i64 (colRows a.cols).length),(38,.int .i64 i),(9,.int .i64 i),(44,.sl (tblRows bs) false),(45,.int .i64 (tblRows bs).length),(46,.int .i64 m),(11,.bp 11 0),(51,.sl (colRows b.cols) false),(52,.int .i64 (colRows b.cols).length),(53,.int .i64 j)],[(3,[.rows 4 [fracV 0 1] none]),(90,[.rows 11 (relRows out) (some [])]),(8,[.rows 3 [a.row] none]),(11,[.rows 3 [b.row] none])],[3,90,8,11]⟩)
     b.cols.length _ ⟨0,o3,by omega,by simp [edgeB],by omega,rfl⟩ gX ?_
    rintro n st ⟨j,out,hj,hout,rfl,rfl⟩;have hrl:=relRows_len out;refine gT (fun hb=>?_) fun hb=>?_
    ·have hjl:j<b.cols.length:=by omega
     have hb4:out.length≤100*409600+64*6400+100*64+64:=by
      have:=edgeB_len a i b j;rw [hout,List.length_append];omega
     have spO:=of29_spec a i b j;obtain ⟨x,y,r6,r7,r8,r9,r10,hof,hx,hy⟩:=of29_form hak hbk hil hjl;have hnx:edgeB a i b (j+1)=edgeB a i b j++edgeC a i b j:=range_flat _ _;have hC:edgeC a i b j=if 0<(x:Int) then [[a.id,(i:Int),b.id,(j:Int),(x:Int),(y:Int),r6,r7,r8,r9,r10]] else []:=by
      unfold edgeC;rw [hof];rfl
     rw [hof] at spO;by_cases hx0:x=0
     ·subst hx0;rw [if_neg (by decide)] at hC;refine g ?_;exact gZ ⟨j+1,out,by omega,(by rw [hout,hnx,hC,List.append_nil]),rfl,rfl⟩
     ·rw [if_pos (by omega)] at hC;have spC:=contained_spec a.id i b.id j r6 r7 r8 r9 r10 x y hx0 hx hy;have spL:=less23_spec (partF x (x+y)).1 (partF x (x+y)).2 (partF_ok (by omega) (by omega) (by omega));generalize (partF x (x+y)).1=p2 at *;generalize (partF x (x+y)).2=q2 at *;refine g ?_;refine ⟨⟨rowsSz_cons rfl rowsSz_nil,rfl⟩,fitsN (n:=(relRows out).length+1) (b:=88) (by omega) (by omega),.inl ⟨rfl,rfl,?_⟩⟩;(conv=>whnf);refine gGo ?_;refine ⟨_,_,?_,⟨j+1,out++[[a.id,(i:Int),b.id,(j:Int),(x:Int),(y:Int),r6,r7,r8,r9,r10]],by omega,(by rw [hout,hnx,hC,List.append_assoc]),rfl,rfl⟩,[(3,3),(90,90),(8,8),(11,11)],[],[],?_⟩
      ·omega
      ·rw [relRows_snoc,List.length_append];exact LeG.mq (.ci 3 (.ci 90 (.ci 8 (.ci 11 .nil))))
    ·have hje:j=b.cols.length:=by omega
     subst hje;refine gGo ?_;exact gZ ⟨m+1,out,by omega,(by rw [hout,ho3,htk,edgeR_snoc,List.append_assoc]),rfl,rfl⟩
   ·have hme:m=bs.length:=by omega
    subst hme;refine gGo ?_;exact gZ ⟨i+1,o3,by omega,(by rw [ho3,List.take_length,ho2,List.append_assoc,edgeA_succ,hgd,←hbs]),rfl,rfl⟩
  ·have hie:i=a.cols.length:=by omega
   subst hie;refine gGo ?_;exact gZ ⟨k+1,o2,by omega,(by rw [ho2,ho1,edgeL_succ,hgd]),rfl,rfl⟩
 ·have hke:k=l.length:=by omega
  subst hke;rw [show edges l=o1 from ho1.symm];refine gGo ?_;(refine gM ?_;conv=>whnf);exact retH rfl (.refl _) rfl rfl rfl ⟨rfl,rfl,trivial⟩
theorem edges_own (l:List Table) (hv:listB l=true) (hl:l.length≤100):Spec Tryz.prog 11 [.sl (tblRows l) false] [] (.osl 90 0 0 (relRows (edges l)).length (relRows (edges l)).length) [(90,.rows 11 (relRows (edges l)) (some []))]:=by
 have sp1:=zero23_spec;have sp2:=build_own l hv hl;refine gEn env Tryz.func11 fun Γ hN hK hML=>?_;refine g ?_;(refine gCA [] [(90,90)] [] (sp2) ?_;conv=>whnf);refine gGr ?_;exact retH rfl (.refl _) rfl rfl rfl ⟨rfl,rfl,trivial⟩
theorem rel_flat (E:List (List Int)):((relRows E).all fun r=>flatL r)=true:=by
 refine List.all_eq_true.2 fun r hr=>?_;obtain ⟨x,_,rfl⟩:=List.mem_map.1 hr;have:∀ x:List Int,flatL (intsV x)=true:=by
  intro x
  induction x with
  | nil=>rfl
  | cons a x ih=>exact ih
 exact this x
end Go.Sx.Sp
namespace Go.Sx.Sp
open Go Go.Sx Go.Proofs Go.Sort
attribute [local irreducible] GoodW famL
end Go.Sx.Sp
namespace Go.Sx.Sp
open Go Go.Sx Go.Proofs
attribute [local irreducible] GoodW famL
end Go.Sx.Sp
namespace Go.Sx.Sp
open Go Go.Sx Go.Proofs Go.Sort
attribute [local irreducible] GoodW famL
def atT (p:Pth) (j:Nat):Int:=((p.steps.take j).map Stp.tt).getLastD p.start
theorem atT_mem (p:Pth) (j:Nat):atT p j∈befT p j:=by
 unfold atT befT;generalize (p.steps.take j).map Stp.tt=l;cases l with
 | nil=>exact List.mem_cons_self
 | cons a l=>rw [List.getLastD_eq_getLast?,List.getLast?_eq_some_getLast (by simp)];exact List.mem_cons_of_mem _ (List.getLast_mem _)
theorem simL_chain {W:Int→List Stp}{dst from_:Int}:∀ (k:Nat) (way:List Stp) (at_:Int) (x:Pth),x∈simL W dst from_ k way at_→at_=(way.map Stp.tt).getLastD from_ →
  (x.steps.map Stp.tt).getLastD from_=dst∧∀ (j:Nat) s,x.steps[j]?=some s→way.length≤j→s∈W (atT x j)∧s.tt∉befT x j
 | 0,way,at_,x,hx,ha=>by
  unfold simL at hx;split at hx
  ·rename_i hd;simp only [List.mem_singleton] at hx;subst hx;refine ⟨by rw [←hd,ha],fun j s hj hl=>?_⟩;rw [List.getElem?_eq_none hl] at hj;cases hj
  ·cases hx
 | k+1,way,at_,x,hx,ha=>by
  unfold simL at hx;split at hx
  ·rename_i hd;simp only [List.mem_singleton] at hx;subst hx;refine ⟨by rw [←hd,ha],fun j s hj hl=>?_⟩;rw [List.getElem?_eq_none hl] at hj;cases hj
  ·obtain ⟨s,hs,hx⟩:=List.mem_flatMap.1 hx;split at hx
   ·cases hx
   ·rename_i hns;obtain ⟨h1,⟨r,h2⟩,_⟩:=simL_pre k _ _ x hx;obtain ⟨g1,g2⟩:=simL_chain k _ _ x hx (by rw [List.map_append,List.map_singleton,List.getLastD_concat]);refine ⟨g1,fun j u hj hl=>?_⟩;rcases Nat.lt_or_ge way.length j with h | h
    ·exact g2 j u hj (by rw [List.length_append,List.length_singleton];omega)
    ·have e:j=way.length:=by omega
     subst e;have e1:x.steps.take way.length=way:=by rw [←h2,List.append_assoc,List.take_left]
     have e2:x.steps[way.length]?=some s:=by rw [←h2,List.append_assoc,List.getElem?_append_right (Nat.le_refl _)];simp
     rw [e2] at hj;cases hj;unfold atT befT;rw [e1,h1,←ha];exact ⟨hs,hns⟩
theorem okE_rev {l:List Table}{s:Stp}(h:okE l s=true):(getC l s.ft s.fc).isSome=true∧(getC l s.tt s.tc).isSome=true:=by
 unfold okE at h;simp only [Bool.and_eq_true] at h;exact h.1
theorem wayW_get {l:List Table}{E:List Stp}{t:Int}{x:Stp}(h:x∈wayW l E t):(getC l x.ft x.fc).isSome=true∧(getC l x.tt x.tc).isSome=true:=by
 obtain ⟨s,_,h1,h2⟩:=wayW_mem.1 h;have:=okE_rev h1;rcases h2 with ⟨_,rfl⟩ | ⟨_,rfl⟩
 ·exact this
 ·exact ⟨this.2,this.1⟩
theorem routesL_valid {l:List Table}{E:List (List Int)}{from_ dst:Int}{k:Nat}{x:Pth}(hl:listB l=true) (hf:(findT l from_).isSome=true) (hk:k≤4) (hx:x∈routesL l E from_ dst k) :
  validE l x=0∧x.start=from_∧x.steps.length≤k:=by
 have hx':x∈simL (wayW l (stpsE E)) dst from_ k [] from_:=hx;obtain ⟨h1,_,h3⟩:=simL_pre _ _ _ _ hx';obtain ⟨_,g⟩:=simL_chain _ _ _ _ hx' rfl;simp only [List.length_nil,Nat.zero_add] at h3;refine ⟨?_,h1,h3⟩;unfold validE;rw [if_pos hl,if_pos (by omega),if_pos];refine pathB_true (h1 ▸ hf) fun j hj=>?_;have hj':=List.getElem?_eq_getElem hj;obtain ⟨a,b⟩:=g j _ hj' (Nat.zero_le _);have c:=wayW_get a;have d:=wayW_ft a;unfold stepOK;rw [hj'];simp only [Bool.and_eq_true,Bool.not_eq_true',decide_eq_true_eq,decide_eq_false_iff_not];exact ⟨c.1,c.2,by rw [d];exact atT_mem x j,b⟩
end Go.Sx.Sp
