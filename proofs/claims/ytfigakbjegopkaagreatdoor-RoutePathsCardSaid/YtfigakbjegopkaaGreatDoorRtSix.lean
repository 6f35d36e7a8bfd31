/- The law of the routes between two tables. -/
import Derived.Test.YtfigakbjegopkaaGreatDoorJSix
import Derived.Test.YtfigakbjegopkaaGreatDoorRtFive
import Derived.Test.YtfigakbjegopkaaGreatDoorJFour
import Derived.Test.YtfigakbjegopkaaGreatDoorSxSix
import Derived.Test.YtfigakbjegopkaaGreatDoorSxFour
set_option linter.unusedVariables false
set_option linter.unusedSimpArgs false
namespace Go.Sx.Sp
open Go Go.Sx Go.Proofs
attribute [local irreducible] GoodW famL
set_option maxHeartbeats 16000000 in
theorem joined_own (l:List Int) (most:Int) (p:Nat) (hm:2≤most∧most≤100) (hp:p≤l.length):Spec Tryz.prog 7 [.bp 0 0,.int .i64 most] [(0,diceB l p)] (.osl 90 0 0 (tblRows (joinedF l most p).1).length (tblRows (joinedF l most p).1).length) [(0,diceB l (joinedF l most p).2),(90,.rows 3 (tblRows (joinedF l most p).1) (some []))]:=by
 have hp1:=nextP_le hp
 have sp0:=next_spec l p (most-1) (by omega) hp
 have hr:=nextV_range l p (n:=most-1) (by omega)
 have hres:joinedF l most p=seqF (fun k q=>tabJ l k q) (2+(nextV l p (most-1)).toNat) 0 (nextP l p):=rfl
 obtain ⟨N,hN⟩:=Int.eq_ofNat_of_zero_le hr.1
 rw [hN] at sp0 hr hres
 rw [Int.toNat_natCast] at hres
 generalize nextP l p=p1 at *
 generalize joinedF l most p=res at *
 refine gEn env Tryz.func7 fun Γ hN hK hML=>?_
 (refine gGo ?_;intros)
 (refine ⟨_,_,_,callG [(0,0)] [] [] rfl rfl rfl (by kernel_rfl) (sp0) (by repeat' (first | exact trivial | exact Lent.refl _ | exact Lent.norm _ | exact Lent.whole rfl rfl (by first | rfl | exact List.length_append.symm | exact hlenR | simp) rfl (by first | exact .inl rfl | exact .inr rfl) | apply And.intro)) rfl ⟨rfl,rfl,rfl,rfl,rfl,by repeat' (first | exact trivial | rfl | apply And.intro),rfl,rfl⟩,?_⟩;conv=>whnf)
 (refine gGo ?_;intros)
 refine W.ownNil 5 90 3 rfl rfl ?_
 refine W.loopG (fun m st=>∃ (k q:Nat) (out:List Table),k≤2+N∧q≤l.length∧out.length=k∧res=(out++(seqF (fun k q=>tabJ l k q) (2+N-k) k q).1,(seqF (fun k q=>tabJ l k q) (2+N-k) k q).2)∧m=2+N-k∧st=⟨[(0,.bp 0 0),(5,.osl 90 0 0 (tblRows out).length (tblRows out).length),(15,.int .i64 (2+(N:Int))),(16,.int .i64 k)],[(0,[diceB l q]),(90,[.rows 3 (tblRows out) (some [])])],[0,90]⟩)
  (2+N) _ ⟨0,p1,[],by omega,hp1,rfl,hres,by omega,rfl⟩ ⟨[(0,0),(90,90)],[],[],.mq (.ci 0 (.ci 90 .nil))⟩ ?_
 rintro m st ⟨k,q,out,hk,hq,ho,he,rfl,rfl⟩
 have hol:=tblRows_len out
 (refine gGo ?_;intros)
 refine boolRes_split (fun hb=>?_) (fun hb=>?_)<;>conv=>whnf
 ·have hkl:k<2+N:=by omega
  have hq1:=nextP_le hq
  have hq2:=nextP_le hq1
  have sp1:=next_spec l q 5 (by omega) hq
  have hr1:=nextV_range l q (n:=5) (by omega)
  have sp2:=next_spec l (nextP l q) 2 (by omega) hq1
  have hr2:=nextV_range l (nextP l q) (n:=2) (by omega)
  have hT:tabJ l k q=(⟨(k+1:Nat),[106],(seqF (fun _ q'=>colJ l (1+(nextV l q 5).toNat) q') (1+(nextV l (nextP l q) 2).toNat) 0 (nextP l (nextP l q))).1⟩,(seqF (fun _ q'=>colJ l (1+(nextV l q 5).toNat) q') (1+(nextV l (nextP l q) 2).toNat) 0 (nextP l (nextP l q))).2):=rfl
  have htok:=(tabJ_ok (l:=l) (k:=k) hq).2
  obtain ⟨R,hR⟩:=Int.eq_ofNat_of_zero_le hr1.1
  obtain ⟨M,hM⟩:=Int.eq_ofNat_of_zero_le hr2.1
  rw [hR] at sp1 hr1 hT
  rw [hM] at sp2 hr2 hT
  rw [Int.toNat_natCast,Int.toNat_natCast] at hT
  generalize hC:seqF (fun _ q=>colJ l (1+R) q) (1+M) 0 (nextP l (nextP l q))=C at hT
  generalize nextP l (nextP l q)=q2 at *
  generalize nextP l q=q1 at *
  rw [show 2+N-k=(2+N-(k+1))+1 by omega] at he
  simp only [seqF] at he
  rw [hT] at he htok
  clear hT hR hM
  (refine gGo ?_;intros)
  (refine ⟨_,_,_,callG [(0,0)] [] [] rfl rfl rfl (by kernel_rfl) (sp1) (by repeat' (first | exact trivial | exact Lent.refl _ | exact Lent.norm _ | exact Lent.whole rfl rfl (by first | rfl | exact List.length_append.symm | exact hlenR | simp) rfl (by first | exact .inl rfl | exact .inr rfl) | apply And.intro)) rfl ⟨rfl,rfl,rfl,rfl,rfl,by repeat' (first | exact trivial | rfl | apply And.intro),rfl,rfl⟩,?_⟩;conv=>whnf)
  (refine gGo ?_;intros)
  (refine ⟨_,_,_,callG [(0,0)] [] [] rfl rfl rfl (by kernel_rfl) (sp2) (by repeat' (first | exact trivial | exact Lent.refl _ | exact Lent.norm _ | exact Lent.whole rfl rfl (by first | rfl | exact List.length_append.symm | exact hlenR | simp) rfl (by first | exact .inl rfl | exact .inr rfl) | apply And.intro)) rfl ⟨rfl,rfl,rfl,rfl,rfl,by repeat' (first | exact trivial | rfl | apply And.intro),rfl,rfl⟩,?_⟩;conv=>whnf)
  (refine gGo ?_;intros)
  refine W.ownCell 7 0 2 91 2 rfl rfl rfl rfl rfl ?_
  refine W.loopG (fun m st=>∃ (j q:Nat) (cs:List Column),j≤1+M∧q≤l.length∧cs.length=j∧C=(cs++(seqF (fun _ q=>colJ l (1+R) q) (1+M-j) j q).1,(seqF (fun _ q=>colJ l (1+R) q) (1+M-j) j q).2)∧m=1+M-j∧st=⟨[(0,.bp 0 0),(5,.osl 90 0 0 (tblRows out).length (tblRows out).length),(15,.int .i64 (2+(N:Int))),(16,.int .i64 k),(7,.bp 7 0),(8,.int .i64 (1+(R:Int))),(27,.int .i64 (1+(M:Int))),(28,.int .i64 j)],[(0,[diceB l q]),(90,[.rows 3 (tblRows out) (some [])]),(7,[.rows 3 [[.int .i64 ((k:Int)+1),.str [106],.osl 91 0 0 (colRows cs).length (colRows cs).length]] none]),(91,[.rows 2 (colRows cs) (some [])])],[0,90,7,91]⟩)
   (1+M) _ ⟨0,q2,[],by omega,hq2,rfl,hC.symm,by omega,rfl⟩ ⟨[(0,0),(90,90),(7,7),(91,91)],[],[],.mq (.ci 0 (.ci 90 (.ci 7 (.ci 91 .nil))))⟩ ?_
  clear hC hq2 sp1 sp2 hq1 hq
  rintro m st ⟨j,q,cs,hj,hq,hcs,hce,rfl,rfl⟩
  have hcl:=colRows_len cs
  (refine gGo ?_;intros)
  refine boolRes_split (fun hb=>?_) (fun hb=>?_)<;>conv=>whnf
  ·have hjl:j<1+M:=by omega
   have hq1:=nextP_le hq
   obtain ⟨_,sp3⟩:=wordF_spec (ws:=jNames) (by decide) (by decide) hq
   have hcd:colJ l (1+R) q=(⟨wordF jNames l q,(seqF (fun _ q=>cellJ l q) (1+R) 0 (nextP l q)).1⟩,(seqF (fun _ q=>cellJ l q) (1+R) 0 (nextP l q)).2):=rfl
   have hcok:=(colJ_ok (l:=l) (n:=1+R) hq).2
   rw [show 1+M-j=(1+M-(j+1))+1 by omega] at hce
   simp only [seqF] at hce
   generalize hX:seqF (fun _ q=>cellJ l q) (1+R) 0 (nextP l q)=X at hcd
   rw [hcd] at hce hcok
   clear hcd
   generalize nextP l q=q1 at *
   generalize wordF jNames l q=nm at *
   (refine gGo ?_;intros)
   (refine ⟨_,_,_,callG [(0,0)] [] [] rfl rfl rfl (by kernel_rfl) (sp3) (by repeat' (first | exact trivial | exact Lent.refl _ | exact Lent.norm _ | exact Lent.whole rfl rfl (by first | rfl | exact List.length_append.symm | exact hlenR | simp) rfl (by first | exact .inl rfl | exact .inr rfl) | apply And.intro)) rfl ⟨rfl,rfl,rfl,rfl,rfl,by repeat' (first | exact trivial | rfl | apply And.intro),rfl,rfl⟩,?_⟩;conv=>whnf)
   (refine gGo ?_;intros)
   refine W.ownCell 9 0 1 92 2 rfl rfl rfl rfl rfl ?_
   refine W.loopG (fun m st=>∃ (i q:Nat) (xs:List Cell),i≤1+R∧q≤l.length∧xs.length=i∧X=(xs++(seqF (fun _ q=>cellJ l q) (1+R-i) i q).1,(seqF (fun _ q=>cellJ l q) (1+R-i) i q).2)∧m=1+R-i∧st=⟨[(0,.bp 0 0),(5,.osl 90 0 0 (tblRows out).length (tblRows out).length),(15,.int .i64 (2+(N:Int))),(16,.int .i64 k),(7,.bp 7 0),(8,.int .i64 (1+(R:Int))),(27,.int .i64 (1+(M:Int))),(28,.int .i64 j),(9,.bp 9 0),(34,.int .i64 (1+(R:Int))),(35,.int .i64 i)],[(0,[diceB l q]),(90,[.rows 3 (tblRows out) (some [])]),(7,[.rows 3 [[.int .i64 ((k:Int)+1),.str [106],.osl 91 0 0 (colRows cs).length (colRows cs).length]] none]),(91,[.rows 2 (colRows cs) (some [])]),(9,[.rows 2 [[.str nm,.osl 92 0 0 (cellRows xs).length (cellRows xs).length]] none]),(92,[.rows 2 (cellRows xs) (some [])])],[0,90,7,91,9,92]⟩)
    (1+R) _ ⟨0,q1,[],by omega,hq1,rfl,hX.symm,by omega,rfl⟩ ⟨[(0,0),(90,90),(7,7),(91,91),(9,9),(92,92)],[],[],.mq (.ci 0 (.ci 90 (.ci 7 (.ci 91 (.ci 9 (.ci 92 .nil))))))⟩ ?_
   clear hX hq1 sp3 hq
   rintro m st ⟨i,q,xs,hi,hq,hxs,hxe,rfl,rfl⟩
   have hxl:=cellRows_len xs
   (refine gGo ?_;intros)
   refine boolRes_split (fun hb=>?_) (fun hb=>?_)<;>conv=>whnf
   ·have hil:i<1+R:=by omega
    obtain ⟨_,sp4⟩:=wordF_spec (ws:=jCells) (by decide) (by decide) hq
    have sp5:=next_spec l (nextP l q) 9 (by omega) (nextP_le hq)
    have hcellok:=(cellJ_ok (l:=l) hq).2
    rw [show 1+R-i=(1+R-(i+1))+1 by omega] at hxe
    simp only [seqF] at hxe
    (refine gGo ?_;intros)
    (refine ⟨_,_,_,callG [(0,0)] [] [] rfl rfl rfl (by kernel_rfl) (sp4) (by repeat' (first | exact trivial | exact Lent.refl _ | exact Lent.norm _ | exact Lent.whole rfl rfl (by first | rfl | exact List.length_append.symm | exact hlenR | simp) rfl (by first | exact .inl rfl | exact .inr rfl) | apply And.intro)) rfl ⟨rfl,rfl,rfl,rfl,rfl,by repeat' (first | exact trivial | rfl | apply And.intro),rfl,rfl⟩,?_⟩;conv=>whnf)
    (refine gGo ?_;intros)
    (refine ⟨_,_,_,callG [(0,0)] [] [] rfl rfl rfl (by kernel_rfl) (sp5) (by repeat' (first | exact trivial | exact Lent.refl _ | exact Lent.norm _ | exact Lent.whole rfl rfl (by first | rfl | exact List.length_append.symm | exact hlenR | simp) rfl (by first | exact .inl rfl | exact .inr rfl) | apply And.intro)) rfl ⟨rfl,rfl,rfl,rfl,rfl,by repeat' (first | exact trivial | rfl | apply And.intro),rfl,rfl⟩,?_⟩;conv=>whnf)
    (refine gGo ?_;intros)
    refine boolRes_split (fun hb=>?_) (fun hb=>?_)<;>conv=>whnf
    ·have hc:cellJ l q=(⟨true,[]⟩,nextP l (nextP l q)):=by unfold cellJ;rw [if_pos hb]
     rw [hc] at hxe hcellok
     (refine gGo ?_;intros)
     refine ⟨⟨rowsSz_cons rfl rowsSz_nil,rfl⟩,fitsN (n:=(cellRows xs).length+1) (b:=24) (by omega) (by omega),.inl ⟨rfl,rfl,?_⟩⟩
     conv=>whnf
     (refine gGo ?_;intros)
     refine ⟨_,_,?_,⟨i+1,_,xs++[_],by omega,hcellok,by simp;omega,(by rw [hxe,List.append_cons]),rfl,rfl⟩,[(0,0),(90,90),(7,7),(91,91),(9,9),(92,92)],[],[],LeG.mq (.ci 0 (.ci 90 (.ci 7 (.ci 91 (.cons 9 rfl rfl (.refl _) ?_ (.cons 92 rfl rfl (.refl _) ?_ .nil))))))⟩
     ·omega
     ·rw [cellRows_snoc,List.length_append];rfl
     ·rw [cellRows_snoc];rfl
    ·have hc:cellJ l q=(⟨false,wordF jCells l q⟩,nextP l (nextP l q)):=by unfold cellJ;rw [if_neg hb]
     rw [hc] at hxe hcellok
     (refine gGo ?_;intros)
     refine ⟨⟨rowsSz_cons rfl rowsSz_nil,rfl⟩,fitsN (n:=(cellRows xs).length+1) (b:=24) (by omega) (by omega),.inl ⟨rfl,rfl,?_⟩⟩
     conv=>whnf
     (refine gGo ?_;intros)
     refine ⟨_,_,?_,⟨i+1,_,xs++[_],by omega,hcellok,by simp;omega,(by rw [hxe,List.append_cons]),rfl,rfl⟩,[(0,0),(90,90),(7,7),(91,91),(9,9),(92,92)],[],[],LeG.mq (.ci 0 (.ci 90 (.ci 7 (.ci 91 (.cons 9 rfl rfl (.refl _) ?_ (.cons 92 rfl rfl (.refl _) ?_ .nil))))))⟩
     ·omega
     ·rw [cellRows_snoc,List.length_append];rfl
     ·rw [cellRows_snoc];rfl
   ·have hie:i=1+R:=by omega
    rw [hie,Nat.sub_self] at hxe
    simp only [seqF,List.append_nil] at hxe
    rw [hxe] at hce hcok
    clear hxe
    refine W.leG (mp:=[(0,0),(90,90),(7,7),(91,91),(9,9)]) (bo:=[92]) (st':=⟨[(0,.bp 0 0),(5,.osl 90 0 0 (tblRows out).length (tblRows out).length),(15,.int .i64 (2+(N:Int))),(16,.int .i64 k),(7,.bp 7 0),(8,.int .i64 (1+(R:Int))),(27,.int .i64 (1+(M:Int))),(28,.int .i64 j),(9,.bp 9 0),(36,.bool false)],[(0,[diceB l q]),(90,[.rows 3 (tblRows out) (some [])]),(7,[.rows 3 [[.int .i64 ((k:Int)+1),.str [106],.osl 91 0 0 (colRows cs).length (colRows cs).length]] none]),(91,[.rows 2 (colRows cs) (some [])]),(9,[.rows 2 [Column.row ⟨nm,xs⟩] none])],[0,90,7,91,9]⟩)
     (LeG.mq (.ci 0 (.ci 90 (.ci 7 (.ci 91 (.cons 9 (b1:=.rows 2 [Column.row ⟨nm,xs⟩] none) rfl rfl (.rows _ _ _ (by repeat' (first | exact trivial | exact ⟨Lent.refl _,rfl⟩ | exact ⟨Lent.norm _,rfl⟩ | exact ⟨Lent.whole rfl rfl (by first | rfl | exact List.length_append.symm | exact hlenR | simp) rfl (by first | exact .inl rfl | exact .inr rfl),rfl⟩ | apply And.intro))) rfl .nil)))))) ?_
    (refine gGo ?_;intros)
    refine ⟨⟨rowsSz_cons rfl rowsSz_nil,rfl⟩,fitsN (n:=(colRows cs).length+1) (b:=40) (by omega) (by omega),.inl ⟨rfl,rfl,?_⟩⟩
    conv=>whnf
    (refine gGo ?_;intros)
    refine ⟨_,_,?_,⟨j+1,_,cs++[_],by omega,hcok,by simp;omega,(by rw [hce,List.append_cons]),rfl,rfl⟩,[(0,0),(90,90),(7,7),(91,91)],[],[],LeG.mq (.ci 0 (.ci 90 (.cons 7 rfl rfl (.refl _) ?_ (.cons 91 rfl rfl (.refl _) ?_ .nil))))⟩
    ·omega
    ·rw [colRows_snoc,List.length_append];rfl
    ·rw [colRows_snoc];rfl
  ·have hje:j=1+M:=by omega
   rw [hje,Nat.sub_self] at hce
   simp only [seqF,List.append_nil] at hce
   rw [hce] at he htok
   clear hce
   refine W.leG (mp:=[(0,0),(90,90),(7,7)]) (bo:=[91]) (st':=⟨[(0,.bp 0 0),(5,.osl 90 0 0 (tblRows out).length (tblRows out).length),(15,.int .i64 (2+(N:Int))),(16,.int .i64 k),(7,.bp 7 0),(29,.bool false)],[(0,[diceB l q]),(90,[.rows 3 (tblRows out) (some [])]),(7,[.rows 3 [Table.row ⟨(k+1:Nat),[106],cs⟩] none])],[0,90,7]⟩)
    (LeG.mq (.ci 0 (.ci 90 (.cons 7 (b1:=.rows 3 [Table.row ⟨(k+1:Nat),[106],cs⟩] none) rfl rfl (.rows _ _ _ (by repeat' (first | exact trivial | exact ⟨Lent.refl _,rfl⟩ | exact ⟨Lent.norm _,rfl⟩ | exact ⟨Lent.whole rfl rfl (by first | rfl | exact List.length_append.symm | exact hlenR | simp) rfl (by first | exact .inl rfl | exact .inr rfl),rfl⟩ | apply And.intro))) rfl .nil)))) ?_
   (refine gGo ?_;intros)
   refine ⟨⟨rowsSz_cons rfl rowsSz_nil,rfl⟩,fitsN (n:=(tblRows out).length+1) (b:=48) (by omega) (by omega),.inl ⟨rfl,rfl,?_⟩⟩
   conv=>whnf
   (refine gGo ?_;intros)
   refine ⟨_,_,?_,⟨k+1,_,out++[_],by omega,htok,by simp;omega,(by rw [he,List.append_cons]),rfl,rfl⟩,[(0,0),(90,90)],[],[],?_⟩
   ·omega
   ·rw [tblRows_snoc,List.length_append]
    exact LeG.mq (.ci 0 (.ci 90 .nil))
 ·have hke:k=2+N:=by omega
  rw [hke,Nat.sub_self] at he
  simp only [seqF,List.append_nil] at he
  rw [he]
  (refine gGo ?_;intros)
  (refine gM ?_;conv=>whnf)
  exact retH rfl (.refl _) rfl rfl rfl ⟨rfl,rfl,rfl,rfl,trivial⟩
set_option maxHeartbeats 32000000 in
theorem build_own (l:List Table) (hv:listB l=true) (hl:l.length≤100):Spec Tryz.prog 19 [.sl (tblRows l) false,.agg (fracV 0 1)] [] (.tup [.osl 90 0 0 (relRows (edges l)).length (relRows (edges l)).length,.int .i64 0]) [(90,.rows 11 (relRows (edges l)) (some []))]:=by
 have spV:=validList3_spec l
 rw [hv] at spV
 have sp0:=zero23_spec
 have sp1:=less23_spec 0 1 zeroOK
 have sp2:=int23_spec 1 (by decide)
 have sp3:=less23_spec (partF 1 1).1 (partF 1 1).2 (partF_ok (by decide) (by decide) (by decide))
 have hal:=listB_valid hv
 have hcols:∀ b∈l,b.cols.length≤64:=fun b hb=>by
  have:=hal b hb
  unfold validB headB at this
  simp only [Bool.and_eq_true,decide_eq_true_eq] at this
  exact this.1.1.2
 have htl:=tblRows_len l
 generalize (partF 1 1).1=p1 at *
 generalize (partF 1 1).2=q1 at *
 refine gEn env Tryz.func19 fun Γ hN hK hML=>?_
 (refine gGo ?_;intros)
 (refine gPC (spV) ?_;conv=>whnf)
 (refine gGo ?_;intros)
 (refine gPC (sp0) ?_;conv=>whnf)
 (refine gGo ?_;intros)
 (refine gPC (sp1) ?_;conv=>whnf)
 (refine gGo ?_;intros)
 (refine gPC (sp2) ?_;conv=>whnf)
 (refine gGo ?_;intros)
 (refine gPC (sp3) ?_;conv=>whnf)
 (refine gGo ?_;intros)
 refine W.ownNil 6 90 11 rfl rfl ?_
 refine W.leG (mp:=[(3,3),(90,90)]) (bo:=[]) (st':=⟨[(0,.sl (tblRows l) false),(3,.bp 3 0),(6,.osl 90 0 0 0 0),(28,.sl (tblRows l) false),(29,.int .i64 (tblRows l).length),(30,.int .i64 0)],[(3,[.rows 4 [fracV 0 1] none]),(90,[.rows 11 [] (some [])])],[3,90]⟩)
  (LeG.mq (.ci 3 (.ci 90 .nil))) ?_
 refine W.loopG (fun n st=>∃ (k:Nat) (out:List (List Int)),k≤l.length∧out=edgeL l k∧n=l.length-k∧st=⟨[(0,.sl (tblRows l) false),(3,.bp 3 0),(6,.osl 90 0 0 (relRows out).length (relRows out).length),(28,.sl (tblRows l) false),(29,.int .i64 (tblRows l).length),(30,.int .i64 k)],[(3,[.rows 4 [fracV 0 1] none]),(90,[.rows 11 (relRows out) (some [])])],[3,90]⟩)
  l.length _ ⟨0,[],by omega,rfl,by omega,rfl⟩ ⟨[(3,3),(90,90)],[],[],.mq (.ci 3 (.ci 90 .nil))⟩ ?_
 rintro n st ⟨k,o1,hk,ho1,rfl,rfl⟩
 (refine gGo ?_;intros)
 refine boolRes_split (fun hb=>?_) (fun hb=>?_)<;>conv=>whnf
 ·have hkl:k<l.length:=by omega
  have hg:=tblRows_get hkl
  have hak:=hal _ (List.getElem_mem hkl)
  have hck:=hcols _ (List.getElem_mem hkl)
  have hgd:l.getD k Table.zero=l[k]:=by simp [hkl]
  generalize ha:l[k]=a at *
  (refine gGo ?_;intros)
  refine rowAt_of (by simpa using hg) ?_
  conv=>whnf
  have hb1:=edgeL_len hcols hl (show k≤l.length by omega)
  rw [←ho1] at hb1
  (refine gGo ?_;intros)
  refine W.loopG (fun n st=>∃ (i:Nat) (out:List (List Int)),i≤a.cols.length∧out=o1++edgeA l k i∧n=a.cols.length-i∧st=⟨[(0,.sl (tblRows l) false),(3,.bp 3 0),(6,.osl 90 0 0 (relRows out).length (relRows out).length),(28,.sl (tblRows l) false),(29,.int .i64 (tblRows l).length),(30,.int .i64 k),(7,.int .i64 k),(8,.bp 8 0),(36,.sl (colRows a.cols) false),(37,.int .i64 (colRows a.cols).length),(38,.int .i64 i)],[(3,[.rows 4 [fracV 0 1] none]),(90,[.rows 11 (relRows out) (some [])]),(8,[.rows 3 [a.row] none])],[3,90,8]⟩)
   a.cols.length _ ⟨0,o1,by omega,by simp [edgeA],by omega,rfl⟩ ⟨[(3,3),(90,90),(8,8)],[],[],.mq (.ci 3 (.ci 90 (.ci 8 .nil)))⟩ ?_
  rintro n st ⟨i,o2,hi,ho2,rfl,rfl⟩
  have hal2:=colRows_len a.cols
  (refine gGo ?_;intros)
  refine boolRes_split (fun hb=>?_) (fun hb=>?_)<;>conv=>whnf
  ·have hil:i<a.cols.length:=by omega
   have hb2:o2.length≤100*409600+64*6400:=by
    have:=edgeA_len hcols hl k i
    rw [ho2,List.length_append];omega
   obtain ⟨bs,hbs⟩:∃ bs,bs=l.drop (k+1):=⟨_,rfl⟩
   have hbl:bs.length=l.length-(k+1):=by rw [hbs,List.length_drop]
   have hbm:∀ b∈bs,b∈l:=fun b hb=>by rw [hbs] at hb;exact List.mem_of_mem_drop hb
   have hbt:=tblRows_len bs
   have hdr:((tblRows l).take ((tblRows l).length:Int).toNat).drop (((k:Int)+1).toNat)=tblRows bs:=by
    rw [Int.toNat_natCast,List.take_length,show ((k:Int)+1).toNat=k+1 by omega,hbs]
    unfold tblRows
    rw [List.map_drop]
   (refine gGo ?_;intros)
   refine ⟨tblRows_sz l,?_⟩
   conv=>whnf
   rw [hdr]
   (refine gGo ?_;intros)
   refine W.loopG (fun n st=>∃ (m:Nat) (out:List (List Int)),m≤bs.length∧out=o2++edgeR a i (bs.take m)∧n=bs.length-m∧st=⟨[(0,.sl (tblRows l) false),(3,.bp 3 0),(6,.osl 90 0 0 (relRows out).length (relRows out).length),(28,.sl (tblRows l) false),(29,.int .i64 (tblRows l).length),(30,.int .i64 k),(7,.int .i64 k),(8,.bp 8 0),(36,.sl (colRows a.cols) false),(37,.int .i64 (colRows a.cols).length),(38,.int .i64 i),(9,.int .i64 i),(44,.sl (tblRows bs) false),(45,.int .i64 (tblRows bs).length),(46,.int .i64 m)],[(3,[.rows 4 [fracV 0 1] none]),(90,[.rows 11 (relRows out) (some [])]),(8,[.rows 3 [a.row] none])],[3,90,8]⟩)
    bs.length _ ⟨0,o2,by omega,by simp [edgeR],by omega,rfl⟩ ⟨[(3,3),(90,90),(8,8)],[],[],.mq (.ci 3 (.ci 90 (.ci 8 .nil)))⟩ ?_
   rintro n st ⟨m,o3,hm,ho3,rfl,rfl⟩
   (refine gGo ?_;intros)
   refine boolRes_split (fun hb=>?_) (fun hb=>?_)<;>conv=>whnf
   ·have hml:m<bs.length:=by omega
    have hgm:=tblRows_get hml
    have hbk:=hal _ (hbm _ (List.getElem_mem hml))
    have hcb:=hcols _ (hbm _ (List.getElem_mem hml))
    have hb3:o3.length≤100*409600+64*6400+100*64:=by
     have:=edgeR_len a i (bs:=bs.take m) (fun b hb=>hcols _ (hbm _ (List.mem_of_mem_take hb)))
     rw [List.length_take] at this
     rw [ho3,List.length_append];omega
    have htk:bs.take (m+1)=bs.take m++[bs[m]]:=List.take_succ_eq_append_getElem hml
    generalize bs[m]=b at *
    have hbl2:=colRows_len b.cols
    (refine gGo ?_;intros)
    refine rowAt_of (by simpa using hgm) ?_
    conv=>whnf
    (refine gGo ?_;intros)
    refine W.loopG (fun n st=>∃ (j:Nat) (out:List (List Int)),j≤b.cols.length∧out=o3++edgeB a i b j∧n=b.cols.length-j∧st=⟨[(0,.sl (tblRows l) false),(3,.bp 3 0),(6,.osl 90 0 0 (relRows out).length (relRows out).length),(28,.sl (tblRows l) false),(29,.int .i64 (tblRows l).length),(30,.int .i64 k),(7,.int .i64 k),(8,.bp 8 0),(36,.sl (colRows a.cols) false),(37,.int .i64 (colRows a.cols).length),(38,.int .i64 i),(9,.int .i64 i),(44,.sl (tblRows bs) false),(45,.int .i64 (tblRows bs).length),(46,.int .i64 m),(11,.bp 11 0),(51,.sl (colRows b.cols) false),(52,.int .i64 (colRows b.cols).length),(53,.int .i64 j)],[(3,[.rows 4 [fracV 0 1] none]),(90,[.rows 11 (relRows out) (some [])]),(8,[.rows 3 [a.row] none]),(11,[.rows 3 [b.row] none])],[3,90,8,11]⟩)
     b.cols.length _ ⟨0,o3,by omega,by simp [edgeB],by omega,rfl⟩ ⟨[(3,3),(90,90),(8,8),(11,11)],[],[],.mq (.ci 3 (.ci 90 (.ci 8 (.ci 11 .nil))))⟩ ?_
    rintro n st ⟨j,out,hj,hout,rfl,rfl⟩
    have hrl:=relRows_len out
    (refine gGo ?_;intros)
    refine boolRes_split (fun hb=>?_) (fun hb=>?_)<;>conv=>whnf
    ·have hjl:j<b.cols.length:=by omega
     have hb4:out.length≤100*409600+64*6400+100*64+64:=by
      have:=edgeB_len a i b j
      rw [hout,List.length_append];omega
     have spO:=of29_spec a i b j
     obtain ⟨x,y,r6,r7,r8,r9,r10,hof,hx,hy⟩:=of29_form hak hbk hil hjl
     have hnx:edgeB a i b (j+1)=edgeB a i b j++edgeC a i b j:=range_flat _ _
     have hC:edgeC a i b j=if 0<(x:Int) then [[a.id,(i:Int),b.id,(j:Int),(x:Int),(y:Int),r6,r7,r8,r9,r10]] else []:=by
      unfold edgeC
      rw [hof];rfl
     rw [hof] at spO
     by_cases hx0:x=0
     ·subst hx0
      rw [if_neg (by decide)] at hC
      (refine gGo ?_;intros)
      (refine gPC (spO) ?_;conv=>whnf)
      (refine gGo ?_;intros)
      refine ⟨_,_,?_,⟨j+1,out,by omega,(by rw [hout,hnx,hC,List.append_nil]),rfl,rfl⟩,⟨[(3,3),(90,90),(8,8),(11,11)],[],[],.mq (.ci 3 (.ci 90 (.ci 8 (.ci 11 .nil))))⟩⟩
      omega
     ·rw [if_pos (by omega)] at hC
      have spC:=contained_spec a.id i b.id j r6 r7 r8 r9 r10 x y hx0 hx hy
      have spL:=less23_spec (partF x (x+y)).1 (partF x (x+y)).2 (partF_ok (by omega) (by omega) (by omega))
      generalize (partF x (x+y)).1=p2 at *
      generalize (partF x (x+y)).2=q2 at *
      (refine gGo ?_;intros)
      (refine gPC (spO) ?_;conv=>whnf)
      (refine gGo ?_;intros)
      (refine gPC (spC) ?_;conv=>whnf)
      (refine gGo ?_;intros)
      (refine gPC (spL) ?_;conv=>whnf)
      (refine gGo ?_;intros)
      refine ⟨⟨rowsSz_cons rfl rowsSz_nil,rfl⟩,fitsN (n:=(relRows out).length+1) (b:=88) (by omega) (by omega),.inl ⟨rfl,rfl,?_⟩⟩
      conv=>whnf
      (refine gGo ?_;intros)
      refine ⟨_,_,?_,⟨j+1,out++[[a.id,(i:Int),b.id,(j:Int),(x:Int),(y:Int),r6,r7,r8,r9,r10]],by omega,(by rw [hout,hnx,hC,List.append_assoc]),rfl,rfl⟩,[(3,3),(90,90),(8,8),(11,11)],[],[],?_⟩
      ·omega
      ·rw [relRows_snoc,List.length_append]
       exact LeG.mq (.ci 3 (.ci 90 (.ci 8 (.ci 11 .nil))))
    ·have hje:j=b.cols.length:=by omega
     subst hje
     (refine gGo ?_;intros)
     refine ⟨_,_,?_,⟨m+1,out,by omega,(by rw [hout,ho3,htk,edgeR_snoc,List.append_assoc]),rfl,rfl⟩,⟨[(3,3),(90,90),(8,8)],[],[],.mq (.ci 3 (.ci 90 (.ci 8 .nil)))⟩⟩
     omega
   ·have hme:m=bs.length:=by omega
    subst hme
    (refine gGo ?_;intros)
    refine ⟨_,_,?_,⟨i+1,o3,by omega,(by rw [ho3,List.take_length,ho2,List.append_assoc,edgeA_succ,hgd,←hbs]),rfl,rfl⟩,⟨[(3,3),(90,90),(8,8)],[],[],.mq (.ci 3 (.ci 90 (.ci 8 .nil)))⟩⟩
    omega
  ·have hie:i=a.cols.length:=by omega
   subst hie
   (refine gGo ?_;intros)
   refine ⟨_,_,?_,⟨k+1,o2,by omega,(by rw [ho2,ho1,edgeL_succ,hgd]),rfl,rfl⟩,⟨[(3,3),(90,90)],[],[],.mq (.ci 3 (.ci 90 .nil))⟩⟩
   omega
 ·have hke:k=l.length:=by omega
  subst hke
  rw [show edges l=o1 from ho1.symm]
  (refine gGo ?_;intros)
  (refine gM ?_;conv=>whnf)
  exact retH rfl (.refl _) rfl rfl rfl ⟨rfl,rfl,trivial⟩
theorem edges_own (l:List Table) (hv:listB l=true) (hl:l.length≤100):Spec Tryz.prog 8 [.sl (tblRows l) false] [] (.osl 90 0 0 (relRows (edges l)).length (relRows (edges l)).length) [(90,.rows 11 (relRows (edges l)) (some []))]:=by
 have sp1:=zero23_spec
 have sp2:=build_own l hv hl
 refine gEn env Tryz.func8 fun Γ hN hK hML=>?_
 (refine gGo ?_;intros)
 (refine gPC (sp1) ?_;conv=>whnf)
 (refine gGo ?_;intros)
 (refine gCA [] [(90,90)] [] (sp2) ?_;conv=>whnf)
 (refine gGr ?_;intros)
 exact retH rfl (.refl _) rfl rfl rfl ⟨rfl,rfl,trivial⟩
theorem rel_flat (E:List (List Int)):((relRows E).all fun r=>flatL r)=true:=by
 refine List.all_eq_true.2 fun r hr=>?_
 obtain ⟨x,_,rfl⟩:=List.mem_map.1 hr
 have:∀ x:List Int,flatL (intsV x)=true:=by
  intro x
  induction x with
  | nil=>rfl
  | cons a x ih=>exact ih
 exact this x
end Go.Sx.Sp
namespace Go.Sx.Sp
open Go Go.Sx Go.Proofs Go.Sort
attribute [local irreducible] GoodW famL
end Go.Sx.Sp
namespace Go.Sx.Sp
open Go Go.Sx Go.Proofs
attribute [local irreducible] GoodW famL
theorem wf_ref {n:Nat}{vs:List V}(hs:shape T (n+2) 33 vs):∃ x y:Int,vs=[.int .i64 x,.int .i64 y]:=by
 obtain ⟨a,b,rfl,ha,c,d,rfl,hc,rfl⟩:=shape_st (T:=T) (t:=33) rfl hs
 obtain ⟨x,rfl,_⟩:=shape_int (T:=T) (t:=3) rfl ha
 obtain ⟨y,rfl,_⟩:=shape_int (T:=T) (t:=3) rfl hc
 exact ⟨x,y,rfl⟩
theorem wf_rels {n:Nat}{rows:List (List V)}(hs:∀ r∈rows,shape T (n+3) 35 r):∃ l:List (List Int),rows=relRows l∧∀ r∈l,Rel11 r:=by
 obtain ⟨l,h,h11⟩:=rows_map (f:=intsV) (p:=Rel11) (rows:=rows) fun r hr=>by
  obtain ⟨a,a',rfl,ha,b,b',rfl,hb,c1,d1,rfl,h1,c2,d2,rfl,h2,c3,d3,rfl,h3,c4,d4,rfl,h4,c5,d5,rfl,h5,c6,d6,rfl,h6,c7,d7,rfl,h7,rfl⟩:=shape_st (T:=T) (t:=35) rfl (hs r hr)
  obtain ⟨x,y,rfl⟩:=wf_ref ha
  obtain ⟨z,u,rfl⟩:=wf_ref hb
  obtain ⟨x1,rfl,_⟩:=shape_int (T:=T) (t:=3) rfl h1
  obtain ⟨x2,rfl,_⟩:=shape_int (T:=T) (t:=3) rfl h2
  obtain ⟨x3,rfl,_⟩:=shape_int (T:=T) (t:=3) rfl h3
  obtain ⟨x4,rfl,_⟩:=shape_int (T:=T) (t:=3) rfl h4
  obtain ⟨x5,rfl,_⟩:=shape_int (T:=T) (t:=3) rfl h5
  obtain ⟨x6,rfl,_⟩:=shape_int (T:=T) (t:=3) rfl h6
  obtain ⟨x7,rfl,_⟩:=shape_int (T:=T) (t:=3) rfl h7
  exact ⟨[x,y,z,u,x1,x2,x3,x4,x5,x6,x7],rfl,rfl⟩
 exact ⟨l,h,h11⟩
theorem arg_rels {n:Nat}{u:V}(hs:argShape T (n+4) 23 u):∃ l:List (List Int),u=.sl (relRows l) false∧∀ r∈l,Rel11 r:=by
 obtain ⟨q,h,_,hq⟩:=shape_sl (T:=T) (t:=23) rfl (argShape_one (T:=T) (t:=23) rfl rfl hs)
 obtain ⟨l,rfl,h11⟩:=wf_rels hq
 exact ⟨l,by simpa using h,h11⟩
theorem edges_few {l:List Table}(h:∀ b∈l,b.cols.length≤2) (hl:l.length≤4):(edges l).length≤64:=by
 have h1:∀ k n,(edgeA l k n).length≤n*8:=fun k n=>by
  have:=flat_le (fun i=>edgeR (l.getD k Table.zero) i (l.drop (k+1))) 8 (List.range n) (fun i _=>by
   have:=flat_le (fun b:Table=>edgeB (l.getD k Table.zero) i b b.cols.length) 2 (l.drop (k+1)) fun b hb=>Nat.le_trans (edgeB_len _ i b _) (h b (List.mem_of_mem_drop hb))
   rw [List.length_drop] at this
   show (edgeR (l.getD k Table.zero) i (l.drop (k+1))).length≤8
   unfold edgeR
   omega)
  rwa [List.length_range] at this
 have:=flat_le (fun k=>edgeA l k (l.getD k Table.zero).cols.length) 16 (List.range l.length) (fun k hk=>by
  have hk:=List.mem_range.1 hk
  have h1:=h1 k (l.getD k Table.zero).cols.length
  have h2:(l.getD k Table.zero).cols.length≤2:=by
   rw [List.getD_eq_getElem?_getD,List.getElem?_eq_getElem (show k<l.length by omega)]
   exact h _ (List.getElem_mem _)
  show (edgeA l k (l.getD k Table.zero).cols.length).length≤16
  omega)
 rw [List.length_range] at this
 show (edgeL l l.length).length≤64
 unfold edgeL
 omega
theorem pathsM_bad {l:List Table}(E:List (List Int)) (a b c:Int) (h:listB l=false):pathsM l E a b c=([],1):=by
 have:routeE l a b c=1:=by unfold routeE;rw [h];rfl
 unfold pathsM
 rw [this];rfl
theorem listB_twice {L:List Table}{x:Table}(h0:L[0]?=some x) (hL:L.length≤4) (h:∀ k (hk:k<L.length),TabJ k L[k]):listB (L++[x])=false:=by
 cases hB:listB (L++[x]) with
 | false=>rfl
 | true =>
  unfold listB at hB
  rw [Bool.and_eq_true] at hB
  have h1:=(ascB_iff _).1 hB.1
  have hl0:0<L.length:=by
   rcases Nat.eq_zero_or_pos L.length with h | h
   ·rw [List.length_eq_zero_iff.1 h] at h0;cases h0
   ·exact h
  have h2:=h1 (L.length-1) (by rw [List.length_append,List.length_singleton];omega)
  rw [List.getElem?_eq_getElem hl0] at h0
  obtain rfl:=Option.some.inj h0
  rw [List.getElem_append_left (by omega),List.getElem_append_right (by omega)] at h2
  have e1:=(h (L.length-1) (by omega)).id
  have e2:=(h 0 hl0).id
  simp only [List.getElem_singleton] at h2
  omega
set_option maxHeartbeats 16000000 in
theorem routePaths_law (t:List Int) (raw:List (List Int)) (from_ dst steps k:Int) (h11:∀ r∈raw,Rel11 r):Spec Tryz.prog 3 [.sl (intRows .i64 t) false,.sl (relRows raw) false,.int .i64 from_,.int .i64 dst,.int .i64 steps,.int .i64 k] [] (.bool true) []:=by
 have hl:=intRows_len .i64 t
 have spL:=light_spec t
 have spA:=awake33_spec
 have hrl:=relRows_len raw
 have spM1:=mod_spec from_ 5 (by decide)
 have spM2:=mod_spec dst 5 (by decide)
 have spM3:=mod_spec steps 6 (by decide)
 have rM3:=modK_range (n:=steps) (m:=6)
 have spM4:=mod_spec steps 4 (by decide)
 have spM5:=mod_spec k 6 (by decide)
 by_cases hll:t.length≤500
 ·rw [decide_eq_true hll] at spL
  by_cases hr12:raw.length≤12
  ·obtain ⟨⟨j1,j2⟩,j3,j4⟩:=joined_ok (l:=t) (most:=4) (p:=0) (by omega) (Nat.zero_le _)
   have spJ:=joined_own t 4 0 (by omega) (Nat.zero_le _)
   generalize (joinedF t 4 0).1=L at *
   generalize (joinedF t 4 0).2=q at *
   have j2:L.length≤4:=j2
   have hlist:=listB_J j3 (by omega)
   have hsm:=listB_small hlist
   have spE:=edges_own L hlist (by omega)
   have hE11:=edges_11 L
   have hEf:=edges_few (l:=L) (fun b hb=>by obtain ⟨k,hk,rfl⟩:=List.getElem_of_mem hb;exact (j3 k hk).few.2) (by omega)
   generalize edges L=E at *
   have hEl:=relRows_len E
   have hLl:=tblRows_len L
   have spD:=next_spec t q 3 (by omega) j4
   obtain ⟨x,hx⟩:∃ x,L[0]?=some x:=⟨L[0],List.getElem?_eq_getElem (by omega)⟩
   have hx0:(tblRows L)[0]?=some x.row:=by unfold tblRows;rw [List.getElem?_map,hx];rfl
   refine gEn env Tryz.func3 fun Γ hN hK hML=>?_
   (refine gGo ?_;intros)
   (refine gPC (spL) ?_;conv=>whnf)
   (refine gGo ?_;intros)
   (refine gCA [] [(5,70)] [] (roll_spec t) ?_;conv=>whnf)
   (refine gGo ?_;intros)
   (refine gCA [(0,70)] [(90,80)] [] (spJ) ?_;conv=>whnf)
   (refine gGo ?_;intros)
   refine ⟨_,_,_,callG [] [(90,81)] [80] rfl rfl rfl (by kernel_rfl) spE ⟨Lent.whole rfl rfl rfl rfl (.inl rfl),trivial⟩ rfl ⟨rfl,rfl,rfl,rfl,rfl,by repeat' (first | exact trivial | rfl | apply And.intro),rfl,(by show (true&&((Blk.rows 11 (relRows E) (some [])).flatB&&true))=true;rw [Bool.true_and,Bool.and_true];exact rel_flat E)⟩,?_⟩
   conv=>whnf
   (refine gGo ?_;intros)
   (refine ⟨_,_,_,callG [(0,70)] [] [] rfl rfl rfl (by kernel_rfl) (spD) (by repeat' (first | exact trivial | exact Lent.refl _ | exact Lent.norm _ | exact Lent.whole rfl rfl (by first | rfl | exact List.length_append.symm | exact hlenR | simp) rfl (by first | exact .inl rfl | exact .inr rfl) | apply And.intro)) rfl ⟨rfl,rfl,rfl,rfl,rfl,by repeat' (first | exact trivial | rfl | apply And.intro),rfl,rfl⟩,?_⟩;conv=>whnf)
   (refine gGo ?_;intros)
   refine boolRes_split (fun hb=>?_) (fun hb=>?_)<;>conv=>whnf
   ·(refine gGo ?_;intros)
    refine boolRes_split (fun hb=>?_) (fun hb=>?_)<;>conv=>whnf
    ·have hE0:0<E.length:=by omega
     obtain ⟨y,hy⟩:∃ y,E[0]?=some y:=⟨E[0],List.getElem?_eq_getElem hE0⟩
     have hy0:(relRows E)[0]?=some (intsV y):=by unfold relRows;rw [List.getElem?_map,hy];rfl
     have hy11:Rel11 y:=hE11 y (List.mem_of_getElem? hy)
     obtain ⟨F,hF⟩:∃ F:List (List Int),F=E++[y,[1,0,1,0,0,0,0,0,0,0,0],[1,7,2,0,0,0,0,0,0,0,0]]:=⟨_,rfl⟩
     have hF11:∀ r∈F,Rel11 r:=fun r hr=>by
      rw [hF] at hr
      rcases List.mem_append.1 hr with h | h
      ·exact hE11 r h
      ·simp only [List.mem_cons,List.not_mem_nil,or_false] at h
       rcases h with rfl | rfl | rfl
       ·exact hy11
       ·rfl
       ·rfl
     have hFl:F.length≤100:=by rw [hF,List.length_append];simp only [List.length_cons,List.length_nil];omega
     obtain ⟨a0,a1,a2,a3,a4,a5,a6,a7,a8,a9,a10,rfl⟩:=rel11 hy11
     (refine gGo ?_;intros)
     refine rowAt_of (by simpa using hy0) ?_
     conv=>whnf
     (refine gGo ?_;intros)
     refine ⟨⟨rowsSz_cons rfl (rowsSz_cons rfl (rowsSz_cons rfl rowsSz_nil)),rfl⟩,fitsN (n:=(relRows E).length+3) (b:=88) (by omega) (by omega),.inl ⟨rfl,rfl,?_⟩⟩
     conv=>whnf
     (refine gGs ?_;intros)
     refine W.leG (mp:=[(80,80)]) (bo:=[81]) (st':=⟨[(1,.sl (relRows raw) false),(2,.int .i64 from_),(3,.int .i64 dst),(4,.int .i64 steps),(5,.int .i64 k),(14,.osl 80 0 0 (tblRows L).length (tblRows L).length),(15,.sl (relRows (F)) false)],[(80,[.rows 3 (tblRows L) (some [])])],[80]⟩)
      (LeG.mk' rfl rfl rfl ⟨⟨_,.refl _,rfl⟩,⟨_,.refl _,rfl⟩,⟨_,.refl _,rfl⟩,⟨_,.refl _,rfl⟩,⟨_,.refl _,rfl⟩,⟨_,.refl _,rfl⟩,⟨_,Lent.whole rfl rfl (by rw [List.length_append]) rfl (.inl rfl),(by rw [hF];unfold relRows;rw [List.map_append];rfl)⟩,trivial⟩ (.ci 80 .nil) rfl rfl (by rw [hK];rfl)) ?_
     clear spE spJ hEl
     refine gA ?_
     refine W.scopeL Tryz.f3.ntmps [14,15] [80] [(1,.sl (relRows raw) false),(2,.int .i64 from_),(3,.int .i64 dst),(4,.int .i64 steps),(5,.int .i64 k),(14,.sl (tblRows L) false),(15,.sl (relRows (F)) false)] hN ⟨.refl _,rfl,.refl _,rfl,.refl _,rfl,.refl _,rfl,.refl _,rfl,Lent.whole rfl rfl rfl rfl (.inl rfl),rfl,.refl _,rfl,trivial⟩ (fun Γ hN hK=>?_) ?_
     ·(refine gGo ?_;intros)
      refine W.loopG (fun m st=>∃ i:Nat,i≤2∧m=2-i∧st=⟨[(1,.sl (relRows raw) false),(2,.int .i64 from_),(3,.int .i64 dst),(4,.int .i64 steps),(5,.int .i64 k),(14,.sl (tblRows L) false),(15,.sl (relRows (F)) false),(69,.sl [[.sl (relRows (F)) false],[.sl (relRows raw) false]] false),(70,.int .i64 2),(71,.int .i64 (i:Nat))],[],[]⟩)
       2 _ ⟨0,by omega,by omega,rfl⟩ ⟨[],[],[],.mq .nil⟩ ?_
      rintro m st ⟨i,hi,rfl,rfl⟩
      (refine gGo ?_;intros)
      refine boolRes_split (fun hb=>?_) (fun hb=>?_)<;>conv=>whnf
      ·obtain ⟨X,hg,hX11,hXl⟩:∃ X:List (List Int),([[V.sl (relRows (F)) false],[V.sl (relRows raw) false]]:List (List V))[i]?=some [V.sl (relRows X) false]∧(∀ r∈X,Rel11 r)∧X.length≤100:=by
        match i,hb with
        | 0,_=>exact ⟨_,rfl,hF11,hFl⟩
        | 1,_=>exact ⟨_,rfl,h11,by omega⟩
        | n+2,h=>exact absurd h (by omega)
       have hXr:=relRows_len X
       (refine gGo ?_;intros)
       refine rowAt_of (r:=[.sl (relRows X) false]) (by simpa using hg) ?_
       conv=>whnf
       (refine gGo ?_;intros)
       (refine gPC (spM1) ?_;conv=>whnf)
       (refine gGo ?_;intros)
       (refine gPC (spM2) ?_;conv=>whnf)
       (refine gGo ?_;intros)
       (refine gPC (spM3) ?_;conv=>whnf)
       (refine gGo ?_;intros)
       (refine gPC (spM4) ?_;conv=>whnf)
       (refine gGo ?_;intros)
       refine W.loopG (fun m st=>∃ j:Nat,j≤3∧m=3-j∧st=⟨[(1,.sl (relRows raw) false),(2,.int .i64 from_),(3,.int .i64 dst),(4,.int .i64 steps),(5,.int .i64 k),(14,.sl (tblRows L) false),(15,.sl (relRows (F)) false),(69,.sl [[.sl (relRows (F)) false],[.sl (relRows raw) false]] false),(70,.int .i64 2),(71,.int .i64 (i:Nat)),(17,.sl (relRows X) false),(90,.sl ([[V.int .i64 from_,V.int .i64 dst,V.int .i64 steps],[V.int .i64 (modK from_ 5),V.int .i64 (modK dst 5),V.int .i64 (modK steps 6-1)],[V.int .i64 1,V.int .i64 2,V.int .i64 (modK steps 4)]]:List (List V)) false),(91,.int .i64 3),(92,.int .i64 (j:Nat))],[],[]⟩)
        3 _ ⟨0,by omega,by omega,rfl⟩ ⟨[],[],[],.mq .nil⟩ ?_
       rintro m st ⟨j,hj,rfl,rfl⟩
       (refine gGo ?_;intros)
       refine boolRes_split (fun hb=>?_) (fun hb=>?_)<;>conv=>whnf
       ·obtain ⟨p1,p2,p3,hg3⟩:∃ p1 p2 p3:Int,([[V.int .i64 from_,V.int .i64 dst,V.int .i64 steps],[V.int .i64 (modK from_ 5),V.int .i64 (modK dst 5),V.int .i64 (modK steps 6-1)],[V.int .i64 1,V.int .i64 2,V.int .i64 (modK steps 4)]]:List (List V))[j]?=some [V.int .i64 p1,V.int .i64 p2,V.int .i64 p3]:=by
         match j,hb with
         | 0,_=>exact ⟨_,_,_,rfl⟩
         | 1,_=>exact ⟨_,_,_,rfl⟩
         | 2,_=>exact ⟨_,_,_,rfl⟩
         | n+3,h=>exact absurd h (by omega)
        have spP:=paths33_spec L X p1 p2 p3 hsm hX11 (by omega)
        have spQ:=paths33R_spec L X p1 p2 p3 hX11 hXl
        have spS:=samePaths_spec (pathsM L X p1 p2 p3).1 (pathsM L X p1 p2 p3).1
        rw [decide_eq_true rfl] at spS
        (refine gGo ?_;intros)
        refine rowAt_of (r:=[V.int .i64 p1,V.int .i64 p2,V.int .i64 p3]) (by simpa using hg3) ?_
        conv=>whnf
        (refine gGo ?_;intros)
        (refine gPC (spP) ?_;conv=>whnf)
        (refine gGo ?_;intros)
        (refine gPC (spQ) ?_;conv=>whnf)
        (refine gGo ?_;intros)
        (refine gPC (spS) ?_;conv=>whnf)
        (refine gGo ?_;intros)
        (refine gPC (spM5) ?_;conv=>whnf)
        (refine gGo ?_;intros)
        refine W.loopG (fun m st=>∃ e:Nat,e≤2∧m=2-e∧st=⟨[(1,.sl (relRows raw) false),(2,.int .i64 from_),(3,.int .i64 dst),(4,.int .i64 steps),(5,.int .i64 k),(14,.sl (tblRows L) false),(15,.sl (relRows (F)) false),(69,.sl [[.sl (relRows (F)) false],[.sl (relRows raw) false]] false),(70,.int .i64 2),(71,.int .i64 (i:Nat)),(17,.sl (relRows X) false),(90,.sl ([[V.int .i64 from_,V.int .i64 dst,V.int .i64 steps],[V.int .i64 (modK from_ 5),V.int .i64 (modK dst 5),V.int .i64 (modK steps 6-1)],[V.int .i64 1,V.int .i64 2,V.int .i64 (modK steps 4)]]:List (List V)) false),(91,.int .i64 3),(92,.int .i64 (j:Nat)),(19,.bp 19 0),(132,.sl ([[V.int .i64 k],[V.int .i64 (modK k 6)]]:List (List V)) false),(133,.int .i64 2),(134,.int .i64 (e:Nat))],[(19,[.rows 3 [[.int .i64 p1,.int .i64 p2,.int .i64 p3]] none])],[19]⟩)
         2 _ ⟨0,by omega,by omega,rfl⟩ ⟨[(19,19)],[],[],.mq (.ci 19 .nil)⟩ ?_
        rintro m st ⟨e,he,rfl,rfl⟩
        (refine gGo ?_;intros)
        refine boolRes_split (fun hb=>?_) (fun hb=>?_)<;>conv=>whnf
        ·obtain ⟨m1,hgm⟩:∃ m1:Int,([[V.int .i64 k],[V.int .i64 (modK k 6)]]:List (List V))[e]?=some [V.int .i64 m1]:=by
          match e,hb with
          | 0,_=>exact ⟨_,rfl⟩
          | 1,_=>exact ⟨_,rfl⟩
          | n+2,h=>exact absurd h (by omega)
         have spU:=top33_spec L X p1 p2 p3 m1 hsm hX11 (by omega)
         have spV:=top33R_spec L X p1 p2 p3 m1 hX11 hXl
         have spW:=sameRtes_spec (rtsOf L (topM L X p1 p2 p3 m1).1) (rtsOf L (topM L X p1 p2 p3 m1).1)
         rw [decide_eq_true rfl] at spW
         (refine gGo ?_;intros)
         refine rowAt_of (r:=[V.int .i64 m1]) (by simpa using hgm) ?_
         conv=>whnf
         (refine gGo ?_;intros)
         (refine gPC (spU) ?_;conv=>whnf)
         (refine gGo ?_;intros)
         (refine gPC (spV) ?_;conv=>whnf)
         (refine gGo ?_;intros)
         (refine gPC (spW) ?_;conv=>whnf)
         (refine gGo ?_;intros)
         refine ⟨2-(e+1),_,by omega,⟨e+1,by omega,rfl,rfl⟩,⟨[(19,19)],[],[],.mq (.ci 19 .nil)⟩⟩
        ·(refine gGo ?_;intros)
         refine ⟨3-(j+1),_,by omega,⟨j+1,by omega,rfl,rfl⟩,⟨[],[],[],.mq .nil⟩⟩
       ·(refine gGo ?_;intros)
        refine ⟨2-(i+1),_,by omega,⟨i+1,by omega,rfl,rfl⟩,⟨[],[],[],.mq .nil⟩⟩
      ·refine gA ?_
       refine gD rfl ?_
       refine gG ?_
       exact rfl
     ·conv=>whnf
      refine W.leG (mp:=[(80,80)]) (bo:=[]) (st':=⟨[(14,.osl 80 0 0 (tblRows L).length (tblRows L).length),(15,.sl (relRows (F)) false)],[(80,[.rows 3 (tblRows L) (some [])])],[80]⟩)
       (LeG.mq (.ci 80 .nil)) ?_
      have hLx:∀ t∈L++[x],SmallT t:=fun t ht=>by
       rcases List.mem_append.1 ht with h | h
       ·exact hsm t h
       ·rw [List.mem_singleton] at h;rw [h];exact hsm x (List.mem_of_getElem? hx)
      have spZ:=paths33_spec (L++[x]) (F) 1 2 1 hLx hF11 (by omega)
      rw [pathsM_bad _ _ _ _ (listB_twice hx j2 j3)] at spZ
      (refine gGo ?_;intros)
      refine rowAt_of (by simpa using hx0) ?_
      conv=>whnf
      (refine gGo ?_;intros)
      refine ⟨⟨rowsSz_cons rfl rowsSz_nil,rfl⟩,fitsN (n:=(tblRows L).length+1) (b:=48) (by omega) (by omega),.inl ⟨rfl,rfl,?_⟩⟩
      conv=>whnf
      (refine gGo ?_;intros)
      have hLL:tblRows (L++[x])=tblRows L++[x.row]:=by simp [tblRows]
      change Spec _ _ _ _ (.tup [.sl [] false,.int .i64 1]) _ at spZ
      rw [hLL] at spZ
      (refine ⟨_,_,_,callG [] [] [80] rfl rfl rfl (by kernel_rfl) spZ (by repeat' (first | exact trivial | exact Lent.refl _ | exact Lent.whole rfl rfl (by first | rfl | exact List.length_append.symm | simp) rfl (.inl rfl) | apply And.intro)) rfl ⟨rfl,rfl,rfl,rfl,rfl,trivial,rfl,rfl⟩,?_⟩;conv=>whnf)
      (refine gGo ?_;intros)
      (refine gPC (spA) ?_;conv=>whnf)
      (refine gGr ?_;intros)
      exact ret0 rfl rfl rfl
    ·have hF11:=hE11
     have hFl:E.length≤100:=by omega
     (refine gGs ?_;intros)
     refine gD rfl ?_
     refine gF ?_
     conv=>whnf
     refine W.leG (mp:=[(80,80)]) (bo:=[81]) (st':=⟨[(1,.sl (relRows raw) false),(2,.int .i64 from_),(3,.int .i64 dst),(4,.int .i64 steps),(5,.int .i64 k),(14,.osl 80 0 0 (tblRows L).length (tblRows L).length),(15,.sl (relRows (E)) false)],[(80,[.rows 3 (tblRows L) (some [])])],[80]⟩)
      (LeG.mk' rfl rfl rfl ⟨⟨_,.refl _,rfl⟩,⟨_,.refl _,rfl⟩,⟨_,.refl _,rfl⟩,⟨_,.refl _,rfl⟩,⟨_,.refl _,rfl⟩,⟨_,.refl _,rfl⟩,⟨_,Lent.whole rfl rfl rfl rfl (.inl rfl),rfl⟩,trivial⟩ (.ci 80 .nil) rfl rfl (by rw [hK];rfl)) ?_
     clear spE spJ hEl
     refine gA ?_
     refine W.scopeL Tryz.f3.ntmps [14,15] [80] [(1,.sl (relRows raw) false),(2,.int .i64 from_),(3,.int .i64 dst),(4,.int .i64 steps),(5,.int .i64 k),(14,.sl (tblRows L) false),(15,.sl (relRows (E)) false)] hN ⟨.refl _,rfl,.refl _,rfl,.refl _,rfl,.refl _,rfl,.refl _,rfl,Lent.whole rfl rfl rfl rfl (.inl rfl),rfl,.refl _,rfl,trivial⟩ (fun Γ hN hK=>?_) ?_
     ·(refine gGo ?_;intros)
      refine W.loopG (fun m st=>∃ i:Nat,i≤2∧m=2-i∧st=⟨[(1,.sl (relRows raw) false),(2,.int .i64 from_),(3,.int .i64 dst),(4,.int .i64 steps),(5,.int .i64 k),(14,.sl (tblRows L) false),(15,.sl (relRows (E)) false),(69,.sl [[.sl (relRows (E)) false],[.sl (relRows raw) false]] false),(70,.int .i64 2),(71,.int .i64 (i:Nat))],[],[]⟩)
       2 _ ⟨0,by omega,by omega,rfl⟩ ⟨[],[],[],.mq .nil⟩ ?_
      rintro m st ⟨i,hi,rfl,rfl⟩
      (refine gGo ?_;intros)
      refine boolRes_split (fun hb=>?_) (fun hb=>?_)<;>conv=>whnf
      ·obtain ⟨X,hg,hX11,hXl⟩:∃ X:List (List Int),([[V.sl (relRows (E)) false],[V.sl (relRows raw) false]]:List (List V))[i]?=some [V.sl (relRows X) false]∧(∀ r∈X,Rel11 r)∧X.length≤100:=by
        match i,hb with
        | 0,_=>exact ⟨_,rfl,hF11,hFl⟩
        | 1,_=>exact ⟨_,rfl,h11,by omega⟩
        | n+2,h=>exact absurd h (by omega)
       have hXr:=relRows_len X
       (refine gGo ?_;intros)
       refine rowAt_of (r:=[.sl (relRows X) false]) (by simpa using hg) ?_
       conv=>whnf
       (refine gGo ?_;intros)
       (refine gPC (spM1) ?_;conv=>whnf)
       (refine gGo ?_;intros)
       (refine gPC (spM2) ?_;conv=>whnf)
       (refine gGo ?_;intros)
       (refine gPC (spM3) ?_;conv=>whnf)
       (refine gGo ?_;intros)
       (refine gPC (spM4) ?_;conv=>whnf)
       (refine gGo ?_;intros)
       refine W.loopG (fun m st=>∃ j:Nat,j≤3∧m=3-j∧st=⟨[(1,.sl (relRows raw) false),(2,.int .i64 from_),(3,.int .i64 dst),(4,.int .i64 steps),(5,.int .i64 k),(14,.sl (tblRows L) false),(15,.sl (relRows (E)) false),(69,.sl [[.sl (relRows (E)) false],[.sl (relRows raw) false]] false),(70,.int .i64 2),(71,.int .i64 (i:Nat)),(17,.sl (relRows X) false),(90,.sl ([[V.int .i64 from_,V.int .i64 dst,V.int .i64 steps],[V.int .i64 (modK from_ 5),V.int .i64 (modK dst 5),V.int .i64 (modK steps 6-1)],[V.int .i64 1,V.int .i64 2,V.int .i64 (modK steps 4)]]:List (List V)) false),(91,.int .i64 3),(92,.int .i64 (j:Nat))],[],[]⟩)
        3 _ ⟨0,by omega,by omega,rfl⟩ ⟨[],[],[],.mq .nil⟩ ?_
       rintro m st ⟨j,hj,rfl,rfl⟩
       (refine gGo ?_;intros)
       refine boolRes_split (fun hb=>?_) (fun hb=>?_)<;>conv=>whnf
       ·obtain ⟨p1,p2,p3,hg3⟩:∃ p1 p2 p3:Int,([[V.int .i64 from_,V.int .i64 dst,V.int .i64 steps],[V.int .i64 (modK from_ 5),V.int .i64 (modK dst 5),V.int .i64 (modK steps 6-1)],[V.int .i64 1,V.int .i64 2,V.int .i64 (modK steps 4)]]:List (List V))[j]?=some [V.int .i64 p1,V.int .i64 p2,V.int .i64 p3]:=by
         match j,hb with
         | 0,_=>exact ⟨_,_,_,rfl⟩
         | 1,_=>exact ⟨_,_,_,rfl⟩
         | 2,_=>exact ⟨_,_,_,rfl⟩
         | n+3,h=>exact absurd h (by omega)
        have spP:=paths33_spec L X p1 p2 p3 hsm hX11 (by omega)
        have spQ:=paths33R_spec L X p1 p2 p3 hX11 hXl
        have spS:=samePaths_spec (pathsM L X p1 p2 p3).1 (pathsM L X p1 p2 p3).1
        rw [decide_eq_true rfl] at spS
        (refine gGo ?_;intros)
        refine rowAt_of (r:=[V.int .i64 p1,V.int .i64 p2,V.int .i64 p3]) (by simpa using hg3) ?_
        conv=>whnf
        (refine gGo ?_;intros)
        (refine gPC (spP) ?_;conv=>whnf)
        (refine gGo ?_;intros)
        (refine gPC (spQ) ?_;conv=>whnf)
        (refine gGo ?_;intros)
        (refine gPC (spS) ?_;conv=>whnf)
        (refine gGo ?_;intros)
        (refine gPC (spM5) ?_;conv=>whnf)
        (refine gGo ?_;intros)
        refine W.loopG (fun m st=>∃ e:Nat,e≤2∧m=2-e∧st=⟨[(1,.sl (relRows raw) false),(2,.int .i64 from_),(3,.int .i64 dst),(4,.int .i64 steps),(5,.int .i64 k),(14,.sl (tblRows L) false),(15,.sl (relRows (E)) false),(69,.sl [[.sl (relRows (E)) false],[.sl (relRows raw) false]] false),(70,.int .i64 2),(71,.int .i64 (i:Nat)),(17,.sl (relRows X) false),(90,.sl ([[V.int .i64 from_,V.int .i64 dst,V.int .i64 steps],[V.int .i64 (modK from_ 5),V.int .i64 (modK dst 5),V.int .i64 (modK steps 6-1)],[V.int .i64 1,V.int .i64 2,V.int .i64 (modK steps 4)]]:List (List V)) false),(91,.int .i64 3),(92,.int .i64 (j:Nat)),(19,.bp 19 0),(132,.sl ([[V.int .i64 k],[V.int .i64 (modK k 6)]]:List (List V)) false),(133,.int .i64 2),(134,.int .i64 (e:Nat))],[(19,[.rows 3 [[.int .i64 p1,.int .i64 p2,.int .i64 p3]] none])],[19]⟩)
         2 _ ⟨0,by omega,by omega,rfl⟩ ⟨[(19,19)],[],[],.mq (.ci 19 .nil)⟩ ?_
        rintro m st ⟨e,he,rfl,rfl⟩
        (refine gGo ?_;intros)
        refine boolRes_split (fun hb=>?_) (fun hb=>?_)<;>conv=>whnf
        ·obtain ⟨m1,hgm⟩:∃ m1:Int,([[V.int .i64 k],[V.int .i64 (modK k 6)]]:List (List V))[e]?=some [V.int .i64 m1]:=by
          match e,hb with
          | 0,_=>exact ⟨_,rfl⟩
          | 1,_=>exact ⟨_,rfl⟩
          | n+2,h=>exact absurd h (by omega)
         have spU:=top33_spec L X p1 p2 p3 m1 hsm hX11 (by omega)
         have spV:=top33R_spec L X p1 p2 p3 m1 hX11 hXl
         have spW:=sameRtes_spec (rtsOf L (topM L X p1 p2 p3 m1).1) (rtsOf L (topM L X p1 p2 p3 m1).1)
         rw [decide_eq_true rfl] at spW
         (refine gGo ?_;intros)
         refine rowAt_of (r:=[V.int .i64 m1]) (by simpa using hgm) ?_
         conv=>whnf
         (refine gGo ?_;intros)
         (refine gPC (spU) ?_;conv=>whnf)
         (refine gGo ?_;intros)
         (refine gPC (spV) ?_;conv=>whnf)
         (refine gGo ?_;intros)
         (refine gPC (spW) ?_;conv=>whnf)
         (refine gGo ?_;intros)
         refine ⟨2-(e+1),_,by omega,⟨e+1,by omega,rfl,rfl⟩,⟨[(19,19)],[],[],.mq (.ci 19 .nil)⟩⟩
        ·(refine gGo ?_;intros)
         refine ⟨3-(j+1),_,by omega,⟨j+1,by omega,rfl,rfl⟩,⟨[],[],[],.mq .nil⟩⟩
       ·(refine gGo ?_;intros)
        refine ⟨2-(i+1),_,by omega,⟨i+1,by omega,rfl,rfl⟩,⟨[],[],[],.mq .nil⟩⟩
      ·refine gA ?_
       refine gD rfl ?_
       refine gG ?_
       exact rfl
     ·conv=>whnf
      refine W.leG (mp:=[(80,80)]) (bo:=[]) (st':=⟨[(14,.osl 80 0 0 (tblRows L).length (tblRows L).length),(15,.sl (relRows (E)) false)],[(80,[.rows 3 (tblRows L) (some [])])],[80]⟩)
       (LeG.mq (.ci 80 .nil)) ?_
      have hLx:∀ t∈L++[x],SmallT t:=fun t ht=>by
       rcases List.mem_append.1 ht with h | h
       ·exact hsm t h
       ·rw [List.mem_singleton] at h;rw [h];exact hsm x (List.mem_of_getElem? hx)
      have spZ:=paths33_spec (L++[x]) (E) 1 2 1 hLx hF11 (by omega)
      rw [pathsM_bad _ _ _ _ (listB_twice hx j2 j3)] at spZ
      (refine gGo ?_;intros)
      refine rowAt_of (by simpa using hx0) ?_
      conv=>whnf
      (refine gGo ?_;intros)
      refine ⟨⟨rowsSz_cons rfl rowsSz_nil,rfl⟩,fitsN (n:=(tblRows L).length+1) (b:=48) (by omega) (by omega),.inl ⟨rfl,rfl,?_⟩⟩
      conv=>whnf
      (refine gGo ?_;intros)
      have hLL:tblRows (L++[x])=tblRows L++[x.row]:=by simp [tblRows]
      change Spec _ _ _ _ (.tup [.sl [] false,.int .i64 1]) _ at spZ
      rw [hLL] at spZ
      (refine ⟨_,_,_,callG [] [] [80] rfl rfl rfl (by kernel_rfl) spZ (by repeat' (first | exact trivial | exact Lent.refl _ | exact Lent.whole rfl rfl (by first | rfl | exact List.length_append.symm | simp) rfl (.inl rfl) | apply And.intro)) rfl ⟨rfl,rfl,rfl,rfl,rfl,trivial,rfl,rfl⟩,?_⟩;conv=>whnf)
      (refine gGo ?_;intros)
      (refine gPC (spA) ?_;conv=>whnf)
      (refine gGr ?_;intros)
      exact ret0 rfl rfl rfl
   ·have hF11:=hE11
    have hFl:E.length≤100:=by omega
    (refine gGs ?_;intros)
    refine gD rfl ?_
    refine gF ?_
    conv=>whnf
    refine W.leG (mp:=[(80,80)]) (bo:=[81]) (st':=⟨[(1,.sl (relRows raw) false),(2,.int .i64 from_),(3,.int .i64 dst),(4,.int .i64 steps),(5,.int .i64 k),(14,.osl 80 0 0 (tblRows L).length (tblRows L).length),(15,.sl (relRows (E)) false)],[(80,[.rows 3 (tblRows L) (some [])])],[80]⟩)
     (LeG.mk' rfl rfl rfl ⟨⟨_,.refl _,rfl⟩,⟨_,.refl _,rfl⟩,⟨_,.refl _,rfl⟩,⟨_,.refl _,rfl⟩,⟨_,.refl _,rfl⟩,⟨_,.refl _,rfl⟩,⟨_,Lent.whole rfl rfl rfl rfl (.inl rfl),rfl⟩,trivial⟩ (.ci 80 .nil) rfl rfl (by rw [hK];rfl)) ?_
    clear spE spJ hEl
    refine gA ?_
    refine W.scopeL Tryz.f3.ntmps [14,15] [80] [(1,.sl (relRows raw) false),(2,.int .i64 from_),(3,.int .i64 dst),(4,.int .i64 steps),(5,.int .i64 k),(14,.sl (tblRows L) false),(15,.sl (relRows (E)) false)] hN ⟨.refl _,rfl,.refl _,rfl,.refl _,rfl,.refl _,rfl,.refl _,rfl,Lent.whole rfl rfl rfl rfl (.inl rfl),rfl,.refl _,rfl,trivial⟩ (fun Γ hN hK=>?_) ?_
    ·(refine gGo ?_;intros)
     refine W.loopG (fun m st=>∃ i:Nat,i≤2∧m=2-i∧st=⟨[(1,.sl (relRows raw) false),(2,.int .i64 from_),(3,.int .i64 dst),(4,.int .i64 steps),(5,.int .i64 k),(14,.sl (tblRows L) false),(15,.sl (relRows (E)) false),(69,.sl [[.sl (relRows (E)) false],[.sl (relRows raw) false]] false),(70,.int .i64 2),(71,.int .i64 (i:Nat))],[],[]⟩)
      2 _ ⟨0,by omega,by omega,rfl⟩ ⟨[],[],[],.mq .nil⟩ ?_
     rintro m st ⟨i,hi,rfl,rfl⟩
     (refine gGo ?_;intros)
     refine boolRes_split (fun hb=>?_) (fun hb=>?_)<;>conv=>whnf
     ·obtain ⟨X,hg,hX11,hXl⟩:∃ X:List (List Int),([[V.sl (relRows (E)) false],[V.sl (relRows raw) false]]:List (List V))[i]?=some [V.sl (relRows X) false]∧(∀ r∈X,Rel11 r)∧X.length≤100:=by
       match i,hb with
       | 0,_=>exact ⟨_,rfl,hF11,hFl⟩
       | 1,_=>exact ⟨_,rfl,h11,by omega⟩
       | n+2,h=>exact absurd h (by omega)
      have hXr:=relRows_len X
      (refine gGo ?_;intros)
      refine rowAt_of (r:=[.sl (relRows X) false]) (by simpa using hg) ?_
      conv=>whnf
      (refine gGo ?_;intros)
      (refine gPC (spM1) ?_;conv=>whnf)
      (refine gGo ?_;intros)
      (refine gPC (spM2) ?_;conv=>whnf)
      (refine gGo ?_;intros)
      (refine gPC (spM3) ?_;conv=>whnf)
      (refine gGo ?_;intros)
      (refine gPC (spM4) ?_;conv=>whnf)
      (refine gGo ?_;intros)
      refine W.loopG (fun m st=>∃ j:Nat,j≤3∧m=3-j∧st=⟨[(1,.sl (relRows raw) false),(2,.int .i64 from_),(3,.int .i64 dst),(4,.int .i64 steps),(5,.int .i64 k),(14,.sl (tblRows L) false),(15,.sl (relRows (E)) false),(69,.sl [[.sl (relRows (E)) false],[.sl (relRows raw) false]] false),(70,.int .i64 2),(71,.int .i64 (i:Nat)),(17,.sl (relRows X) false),(90,.sl ([[V.int .i64 from_,V.int .i64 dst,V.int .i64 steps],[V.int .i64 (modK from_ 5),V.int .i64 (modK dst 5),V.int .i64 (modK steps 6-1)],[V.int .i64 1,V.int .i64 2,V.int .i64 (modK steps 4)]]:List (List V)) false),(91,.int .i64 3),(92,.int .i64 (j:Nat))],[],[]⟩)
       3 _ ⟨0,by omega,by omega,rfl⟩ ⟨[],[],[],.mq .nil⟩ ?_
      rintro m st ⟨j,hj,rfl,rfl⟩
      (refine gGo ?_;intros)
      refine boolRes_split (fun hb=>?_) (fun hb=>?_)<;>conv=>whnf
      ·obtain ⟨p1,p2,p3,hg3⟩:∃ p1 p2 p3:Int,([[V.int .i64 from_,V.int .i64 dst,V.int .i64 steps],[V.int .i64 (modK from_ 5),V.int .i64 (modK dst 5),V.int .i64 (modK steps 6-1)],[V.int .i64 1,V.int .i64 2,V.int .i64 (modK steps 4)]]:List (List V))[j]?=some [V.int .i64 p1,V.int .i64 p2,V.int .i64 p3]:=by
        match j,hb with
        | 0,_=>exact ⟨_,_,_,rfl⟩
        | 1,_=>exact ⟨_,_,_,rfl⟩
        | 2,_=>exact ⟨_,_,_,rfl⟩
        | n+3,h=>exact absurd h (by omega)
       have spP:=paths33_spec L X p1 p2 p3 hsm hX11 (by omega)
       have spQ:=paths33R_spec L X p1 p2 p3 hX11 hXl
       have spS:=samePaths_spec (pathsM L X p1 p2 p3).1 (pathsM L X p1 p2 p3).1
       rw [decide_eq_true rfl] at spS
       (refine gGo ?_;intros)
       refine rowAt_of (r:=[V.int .i64 p1,V.int .i64 p2,V.int .i64 p3]) (by simpa using hg3) ?_
       conv=>whnf
       (refine gGo ?_;intros)
       (refine gPC (spP) ?_;conv=>whnf)
       (refine gGo ?_;intros)
       (refine gPC (spQ) ?_;conv=>whnf)
       (refine gGo ?_;intros)
       (refine gPC (spS) ?_;conv=>whnf)
       (refine gGo ?_;intros)
       (refine gPC (spM5) ?_;conv=>whnf)
       (refine gGo ?_;intros)
       refine W.loopG (fun m st=>∃ e:Nat,e≤2∧m=2-e∧st=⟨[(1,.sl (relRows raw) false),(2,.int .i64 from_),(3,.int .i64 dst),(4,.int .i64 steps),(5,.int .i64 k),(14,.sl (tblRows L) false),(15,.sl (relRows (E)) false),(69,.sl [[.sl (relRows (E)) false],[.sl (relRows raw) false]] false),(70,.int .i64 2),(71,.int .i64 (i:Nat)),(17,.sl (relRows X) false),(90,.sl ([[V.int .i64 from_,V.int .i64 dst,V.int .i64 steps],[V.int .i64 (modK from_ 5),V.int .i64 (modK dst 5),V.int .i64 (modK steps 6-1)],[V.int .i64 1,V.int .i64 2,V.int .i64 (modK steps 4)]]:List (List V)) false),(91,.int .i64 3),(92,.int .i64 (j:Nat)),(19,.bp 19 0),(132,.sl ([[V.int .i64 k],[V.int .i64 (modK k 6)]]:List (List V)) false),(133,.int .i64 2),(134,.int .i64 (e:Nat))],[(19,[.rows 3 [[.int .i64 p1,.int .i64 p2,.int .i64 p3]] none])],[19]⟩)
        2 _ ⟨0,by omega,by omega,rfl⟩ ⟨[(19,19)],[],[],.mq (.ci 19 .nil)⟩ ?_
       rintro m st ⟨e,he,rfl,rfl⟩
       (refine gGo ?_;intros)
       refine boolRes_split (fun hb=>?_) (fun hb=>?_)<;>conv=>whnf
       ·obtain ⟨m1,hgm⟩:∃ m1:Int,([[V.int .i64 k],[V.int .i64 (modK k 6)]]:List (List V))[e]?=some [V.int .i64 m1]:=by
         match e,hb with
         | 0,_=>exact ⟨_,rfl⟩
         | 1,_=>exact ⟨_,rfl⟩
         | n+2,h=>exact absurd h (by omega)
        have spU:=top33_spec L X p1 p2 p3 m1 hsm hX11 (by omega)
        have spV:=top33R_spec L X p1 p2 p3 m1 hX11 hXl
        have spW:=sameRtes_spec (rtsOf L (topM L X p1 p2 p3 m1).1) (rtsOf L (topM L X p1 p2 p3 m1).1)
        rw [decide_eq_true rfl] at spW
        (refine gGo ?_;intros)
        refine rowAt_of (r:=[V.int .i64 m1]) (by simpa using hgm) ?_
        conv=>whnf
        (refine gGo ?_;intros)
        (refine gPC (spU) ?_;conv=>whnf)
        (refine gGo ?_;intros)
        (refine gPC (spV) ?_;conv=>whnf)
        (refine gGo ?_;intros)
        (refine gPC (spW) ?_;conv=>whnf)
        (refine gGo ?_;intros)
        refine ⟨2-(e+1),_,by omega,⟨e+1,by omega,rfl,rfl⟩,⟨[(19,19)],[],[],.mq (.ci 19 .nil)⟩⟩
       ·(refine gGo ?_;intros)
        refine ⟨3-(j+1),_,by omega,⟨j+1,by omega,rfl,rfl⟩,⟨[],[],[],.mq .nil⟩⟩
      ·(refine gGo ?_;intros)
       refine ⟨2-(i+1),_,by omega,⟨i+1,by omega,rfl,rfl⟩,⟨[],[],[],.mq .nil⟩⟩
     ·refine gA ?_
      refine gD rfl ?_
      refine gG ?_
      exact rfl
    ·conv=>whnf
     refine W.leG (mp:=[(80,80)]) (bo:=[]) (st':=⟨[(14,.osl 80 0 0 (tblRows L).length (tblRows L).length),(15,.sl (relRows (E)) false)],[(80,[.rows 3 (tblRows L) (some [])])],[80]⟩)
      (LeG.mq (.ci 80 .nil)) ?_
     have hLx:∀ t∈L++[x],SmallT t:=fun t ht=>by
      rcases List.mem_append.1 ht with h | h
      ·exact hsm t h
      ·rw [List.mem_singleton] at h;rw [h];exact hsm x (List.mem_of_getElem? hx)
     have spZ:=paths33_spec (L++[x]) (E) 1 2 1 hLx hF11 (by omega)
     rw [pathsM_bad _ _ _ _ (listB_twice hx j2 j3)] at spZ
     (refine gGo ?_;intros)
     refine rowAt_of (by simpa using hx0) ?_
     conv=>whnf
     (refine gGo ?_;intros)
     refine ⟨⟨rowsSz_cons rfl rowsSz_nil,rfl⟩,fitsN (n:=(tblRows L).length+1) (b:=48) (by omega) (by omega),.inl ⟨rfl,rfl,?_⟩⟩
     conv=>whnf
     (refine gGo ?_;intros)
     have hLL:tblRows (L++[x])=tblRows L++[x.row]:=by simp [tblRows]
     change Spec _ _ _ _ (.tup [.sl [] false,.int .i64 1]) _ at spZ
     rw [hLL] at spZ
     (refine ⟨_,_,_,callG [] [] [80] rfl rfl rfl (by kernel_rfl) spZ (by repeat' (first | exact trivial | exact Lent.refl _ | exact Lent.whole rfl rfl (by first | rfl | exact List.length_append.symm | simp) rfl (.inl rfl) | apply And.intro)) rfl ⟨rfl,rfl,rfl,rfl,rfl,trivial,rfl,rfl⟩,?_⟩;conv=>whnf)
     (refine gGo ?_;intros)
     (refine gPC (spA) ?_;conv=>whnf)
     (refine gGr ?_;intros)
     exact ret0 rfl rfl rfl
  ·refine gEn env Tryz.func3 fun Γ hN hK hML=>?_
   (refine gGo ?_;intros)
   (refine gPC (spL) ?_;conv=>whnf)
   (refine gGo ?_;intros)
   (refine gPC (spA) ?_;conv=>whnf)
   (refine gGr ?_;intros)
   exact ret0 rfl rfl rfl
 ·rw [decide_eq_false hll] at spL
  refine gEn env Tryz.func3 fun Γ hN hK hML=>?_
  (refine gGo ?_;intros)
  (refine gPC (spL) ?_;conv=>whnf)
  (refine gGo ?_;intros)
  (refine gPC (spA) ?_;conv=>whnf)
  (refine gGr ?_;intros)
  exact ret0 rfl rfl rfl
theorem rpaths_calls {w:World}{v0 v1 v2 v3 v4 v5:Value}{u0 u1 u2 u3 u4 u5:V}(r0:VRel w (fun _=>False) (fun _ _=>none) u0 v0) (r1:VRel w (fun _=>False) (fun _ _=>none) u1 v1) (r2:VRel w (fun _=>False) (fun _ _=>none) u2 v2) (r3:VRel w (fun _=>False) (fun _ _=>none) u3 v3) (r4:VRel w (fun _=>False) (fun _ _=>none) u4 v4) (r5:VRel w (fun _=>False) (fun _ _=>none) u5 v5)
  (a0:argShape T 2 22 u0) (a1:argShape T 4 23 u1) (a2:argShape T 1 3 u2) (a3:argShape T 1 3 u3) (a4:argShape T 1 3 u4) (a5:argShape T 1 3 u5) (hg:GRel w (fun _=>False)) :
  Calls Tryz.prog 3 #[v0,v1,v2,v3,v4,v5] w fun e w'=>e=.returned (.bool true)∧Go.RowKit.Below w.heap.size w w':=by
 obtain ⟨l,rfl⟩:=arg_ints a0
 obtain ⟨E,rfl,hE⟩:=arg_rels (n:=0) a1
 obtain ⟨n2,rfl,_⟩:=arg_int a2
 obtain ⟨n3,rfl,_⟩:=arg_int a3
 obtain ⟨n4,rfl,_⟩:=arg_int a4
 obtain ⟨n5,rfl,_⟩:=arg_int a5
 refine Spec.law (routePaths_law l E n2 n3 n4 n5 hE) (cargs:=[v0,v1,v2,v3,v4,v5]) rfl (fun j u c hj hc=>?_) rfl hg
 match j with
 | 0=>cases hj;cases hc;exact r0
 | 1=>cases hj;cases hc;exact r1
 | 2=>cases hj;cases hc;exact r2
 | 3=>cases hj;cases hc;exact r3
 | 4=>cases hj;cases hc;exact r4
 | 5=>cases hj;cases hc;exact r5
 | j+6=>cases hj
end Go.Sx.Sp
