/- Drawn tables, and operations on tables. -/
import Derived.Test.YthlokmbefpjmgaaGreatDoorJFour
import Derived.Lib.ValidLaws
import Derived.Test.YthlokmbefpjmgaaGreatDoorQOne
import Derived.Test.YthlokmbefpjmgaaGreatDoorExThree
import Derived.Test.YthlokmbefpjmgaaGreatDoorSxFive
import Derived.Test.YthlokmbefpjmgaaGreatDoorSxFour
set_option linter.unusedVariables false
set_option linter.unusedSimpArgs false
namespace Go.Sx.Sp
open Go Go.Sx Go.Proofs
attribute [local irreducible] GoodW famL
def GoodText (s:Str):Prop:=s.length≤100∧∀ b∈s,b.toNat<128
structure GoodCell (c:Cell):Prop where
 text:GoodText c.text
 null:c.null=true→c.text=[]
def GoodTexts (ws:List Str):Prop:=∀ s∈ws,GoodText s
instance (s:Str):Decidable (GoodText s):=inferInstanceAs (Decidable (_∧_))
instance (ws:List Str):Decidable (GoodTexts ws):=inferInstanceAs (Decidable (∀ s∈ws,_))
theorem itoa_good {n:Int}(h:-3≤n∧n≤100):GoodText (Lib.itoa n)∧(Lib.itoa n).length≤10:=by
 have hk:∀ k:Fin 104,GoodText (Lib.itoa ((k.val:Int)-3))∧(Lib.itoa ((k.val:Int)-3)).length≤10:=by decide +kernel
 have:=hk ⟨(n+3).toNat,by omega⟩;simp only at this
 rwa [show (((n+3).toNat:Nat):Int)-3=n by omega] at this
theorem validD_good:∀ {s:Str},(∀ b∈s,b.toNat<128)→Lib.validD s=true
 | [],_=>Lib.validD_nil
 | b::s,h=>by
  rw [Lib.validD_cons b s (h b (by simp))];exact validD_good fun x hx=>h x (List.mem_cons_of_mem _ hx)
def cellWords:List Str:=[[97],[98],[99],[49],[50],[51],[49,48],[120],[45,49,46,53],[50]]
set_option maxHeartbeats 2000000 in
theorem cell_spec (l:List Int) (p:Nat) (hp:p≤l.length):∃ (c:Cell) (q:Nat),GoodCell c∧q≤l.length∧Spec Tryz.prog 153 [.bp 0 0] [(0,diceB l p)] (.agg c.row) [(0,diceB l q)]:=by
 have hp1:=nextP_le hp;have sp1:=next_spec l p 7 (by omega) hp;have hw:GoodTexts cellWords:=by decide +kernel
 obtain ⟨s,hs,sp2⟩:=word_spec l (nextP l p) cellWords (by decide) (by decide) hp1;have hp2:=nextP_le hp1;generalize nextV l p 7=v at *;by_cases hv:v=1
 ·refine ⟨⟨true,[]⟩,nextP l p,⟨by decide,fun _=>rfl⟩,hp1,?_⟩;refine gEn env Tryz.func153 fun Γ hN hK hML=>?_;refine gGo ?_;intros;(refine ⟨_,_,_,callG [(0,0)] [] [] rfl rfl rfl (by kernel_rfl) (sp1) (by repeat' (first | exact trivial | exact Lent.refl _ | exact Lent.norm _ | exact Lent.whole rfl rfl (by first | rfl | exact List.length_append.symm | exact hlenR | simp) rfl (by first | exact .inl rfl | exact .inr rfl) | apply And.intro)) rfl ⟨rfl,rfl,rfl,rfl,rfl,by repeat' (first | exact trivial | rfl | apply And.intro),rfl,rfl⟩,?_⟩;conv=>whnf);refine gGo ?_;intros;(refine gM ?_;conv=>whnf);exact retH rfl (.refl _) rfl rfl rfl ⟨rfl,rfl,trivial⟩
 ·refine ⟨⟨false,s⟩,nextP l (nextP l p),⟨hw s hs,fun h=>by cases h⟩,hp2,?_⟩;refine gEn env Tryz.func153 fun Γ hN hK hML=>?_;refine gGo ?_;intros;(refine ⟨_,_,_,callG [(0,0)] [] [] rfl rfl rfl (by kernel_rfl) (sp1) (by repeat' (first | exact trivial | exact Lent.refl _ | exact Lent.norm _ | exact Lent.whole rfl rfl (by first | rfl | exact List.length_append.symm | exact hlenR | simp) rfl (by first | exact .inl rfl | exact .inr rfl) | apply And.intro)) rfl ⟨rfl,rfl,rfl,rfl,rfl,by repeat' (first | exact trivial | rfl | apply And.intro),rfl,rfl⟩,?_⟩;conv=>whnf);refine gGo ?_;intros;(refine ⟨_,_,_,callG [(0,0)] [] [] rfl rfl rfl (by kernel_rfl) (sp2) (by repeat' (first | exact trivial | exact Lent.refl _ | exact Lent.norm _ | exact Lent.whole rfl rfl (by first | rfl | exact List.length_append.symm | exact hlenR | simp) rfl (by first | exact .inl rfl | exact .inr rfl) | apply And.intro)) rfl ⟨rfl,rfl,rfl,rfl,rfl,by repeat' (first | exact trivial | rfl | apply And.intro),rfl,rfl⟩,?_⟩;conv=>whnf);refine gGo ?_;intros;(refine gM ?_;conv=>whnf);exact retH rfl (.refl _) rfl rfl rfl ⟨rfl,rfl,trivial⟩
def numWords:List Str:=[[120],[],[49,46,50,46,51],[49,46,53,48]]
set_option maxHeartbeats 2000000 in
theorem number_spec (l:List Int) (p:Nat) (hp:p≤l.length):∃ (c:Cell) (q:Nat),GoodCell c∧q≤l.length∧Spec Tryz.prog 154 [.bp 0 0] [(0,diceB l p)] (.agg c.row) [(0,diceB l q)]:=by
 have hp1:=nextP_le hp;have sp1:=next_spec l p 9 (by omega) hp;have hw:GoodTexts numWords:=by decide +kernel
 obtain ⟨s,hs,sp2⟩:=word_spec l (nextP l p) numWords (by decide) (by decide) hp1;have sp3:=next_spec l (nextP l p) 12 (by omega) hp1;have hr3:=nextV_range l (nextP l p) (n:=12) (by omega);have hp2:=nextP_le hp1;generalize nextV l p 9=v at *;generalize nextV l (nextP l p) 12=v3 at *;obtain ⟨hi1,hi2⟩:=itoa_good (n:=v3-3) (by omega);have sp4:=itoa_spec (v3-3) (by omega) (by omega) (by omega);by_cases hv:v=1
 ·refine ⟨⟨true,[]⟩,nextP l p,⟨by decide,fun _=>rfl⟩,hp1,?_⟩;refine gEn env Tryz.func154 fun Γ hN hK hML=>?_;refine gGo ?_;intros;(refine ⟨_,_,_,callG [(0,0)] [] [] rfl rfl rfl (by kernel_rfl) (sp1) (by repeat' (first | exact trivial | exact Lent.refl _ | exact Lent.norm _ | exact Lent.whole rfl rfl (by first | rfl | exact List.length_append.symm | exact hlenR | simp) rfl (by first | exact .inl rfl | exact .inr rfl) | apply And.intro)) rfl ⟨rfl,rfl,rfl,rfl,rfl,by repeat' (first | exact trivial | rfl | apply And.intro),rfl,rfl⟩,?_⟩;conv=>whnf);refine gGo ?_;intros;(refine gM ?_;conv=>whnf);exact retH rfl (.refl _) rfl rfl rfl ⟨rfl,rfl,trivial⟩
 by_cases hv2:v=2
 ·refine ⟨⟨false,s⟩,nextP l (nextP l p),⟨hw s hs,fun h=>by cases h⟩,hp2,?_⟩;refine gEn env Tryz.func154 fun Γ hN hK hML=>?_;refine gGo ?_;intros;(refine ⟨_,_,_,callG [(0,0)] [] [] rfl rfl rfl (by kernel_rfl) (sp1) (by repeat' (first | exact trivial | exact Lent.refl _ | exact Lent.norm _ | exact Lent.whole rfl rfl (by first | rfl | exact List.length_append.symm | exact hlenR | simp) rfl (by first | exact .inl rfl | exact .inr rfl) | apply And.intro)) rfl ⟨rfl,rfl,rfl,rfl,rfl,by repeat' (first | exact trivial | rfl | apply And.intro),rfl,rfl⟩,?_⟩;conv=>whnf);refine gGo ?_;intros;(refine ⟨_,_,_,callG [(0,0)] [] [] rfl rfl rfl (by kernel_rfl) (sp2) (by repeat' (first | exact trivial | exact Lent.refl _ | exact Lent.norm _ | exact Lent.whole rfl rfl (by first | rfl | exact List.length_append.symm | exact hlenR | simp) rfl (by first | exact .inl rfl | exact .inr rfl) | apply And.intro)) rfl ⟨rfl,rfl,rfl,rfl,rfl,by repeat' (first | exact trivial | rfl | apply And.intro),rfl,rfl⟩,?_⟩;conv=>whnf);refine gGo ?_;intros;(refine gM ?_;conv=>whnf);exact retH rfl (.refl _) rfl rfl rfl ⟨rfl,rfl,trivial⟩
 ·refine ⟨⟨false,Lib.itoa (v3-3)⟩,nextP l (nextP l p),⟨hi1,fun h=>by cases h⟩,hp2,?_⟩;refine gEn env Tryz.func154 fun Γ hN hK hML=>?_;refine gGo ?_;intros;(refine ⟨_,_,_,callG [(0,0)] [] [] rfl rfl rfl (by kernel_rfl) (sp1) (by repeat' (first | exact trivial | exact Lent.refl _ | exact Lent.norm _ | exact Lent.whole rfl rfl (by first | rfl | exact List.length_append.symm | exact hlenR | simp) rfl (by first | exact .inl rfl | exact .inr rfl) | apply And.intro)) rfl ⟨rfl,rfl,rfl,rfl,rfl,by repeat' (first | exact trivial | rfl | apply And.intro),rfl,rfl⟩,?_⟩;conv=>whnf);refine gGo ?_;intros;(refine ⟨_,_,_,callG [(0,0)] [] [] rfl rfl rfl (by kernel_rfl) (sp3) (by repeat' (first | exact trivial | exact Lent.refl _ | exact Lent.norm _ | exact Lent.whole rfl rfl (by first | rfl | exact List.length_append.symm | exact hlenR | simp) rfl (by first | exact .inl rfl | exact .inr rfl) | apply And.intro)) rfl ⟨rfl,rfl,rfl,rfl,rfl,by repeat' (first | exact trivial | rfl | apply And.intro),rfl,rfl⟩,?_⟩;conv=>whnf);refine gGo ?_;intros;(refine gPC (sp4) ?_;conv=>whnf);refine gGo ?_;intros;(refine gM ?_;conv=>whnf);exact retH rfl (.refl _) rfl rfl rfl ⟨rfl,rfl,trivial⟩
noncomputable def cellK (l:List Int) (p:Nat):Cell×Nat:=if h:p≤l.length then (Classical.choose (cell_spec l p h),Classical.choose (Classical.choose_spec (cell_spec l p h))) else (⟨true,[]⟩,p)
theorem cellK_spec {l:List Int}{p:Nat}(h:p≤l.length):GoodCell (cellK l p).1∧(cellK l p).2≤l.length∧Spec Tryz.prog 153 [.bp 0 0] [(0,diceB l p)] (.agg (cellK l p).1.row) [(0,diceB l (cellK l p).2)]:=by
 have:=Classical.choose_spec (Classical.choose_spec (cell_spec l p h));simp only [cellK,dif_pos h];exact this
noncomputable def numF (l:List Int) (p:Nat):Cell×Nat:=if h:p≤l.length then (Classical.choose (number_spec l p h),Classical.choose (Classical.choose_spec (number_spec l p h))) else (⟨true,[]⟩,p)
theorem numF_spec {l:List Int}{p:Nat}(h:p≤l.length):GoodCell (numF l p).1∧(numF l p).2≤l.length∧Spec Tryz.prog 154 [.bp 0 0] [(0,diceB l p)] (.agg (numF l p).1.row) [(0,diceB l (numF l p).2)]:=by
 have:=Classical.choose_spec (Classical.choose_spec (number_spec l p h));simp only [numF,dif_pos h];exact this
theorem seqK_ok {α:Type}{step:Nat→Nat→α×Nat}{L:Nat}{Q:α→Prop}{B:Nat}(h:∀ i p,i<B→p≤L→Q (step i p).1∧(step i p).2≤L):∀ n i p,n+i≤B→p≤L→(∀ x∈(seqF step n i p).1,Q x)∧(seqF step n i p).2≤L
 | 0,_,p,_,hp=>⟨fun x hx=>(by cases hx),hp⟩
 | n+1,i,p,hB,hp=>by
  obtain ⟨h1,h2⟩:=h i p (by omega) hp;obtain ⟨h3,h4⟩:=seqK_ok h n (i+1) _ (by omega) h2;refine ⟨fun x hx=>?_,h4⟩;simp only [seqF,List.mem_cons] at hx;rcases hx with rfl | hx
  ·exact h1
  ·exact h3 x hx
def colNames:List Str:=[[105,100],[110,97,109,101],[85,110,105,116,32,80,114,105,99,101],[99,105,116,121],[117,110,105,116],[112,114,105,99,101],[105,100,50],[]]
def abcd:List Str:=[[97],[98],[99],[100]]
noncomputable def colStep (l:List Int) (kind:Int) (i p:Nat):Cell×Nat:=
 if kind=0 then numF l (cellK l p).2
 else if kind=1 then (⟨false,107::Lib.itoa i⟩,(cellK l p).2)
 else if kind=2 then (⟨false,wordF abcd l (cellK l p).2⟩,nextP l (cellK l p).2)
 else cellK l p
theorem colStep_ok {l:List Int}{kind:Int}{i p:Nat}(hi:i<100) (hp:p≤l.length):GoodCell (colStep l kind i p).1∧(colStep l kind i p).2≤l.length:=by
 obtain ⟨h1,h2,_⟩:=cellK_spec hp;unfold colStep;split
 ·obtain ⟨h3,h4,_⟩:=numF_spec h2;exact ⟨h3,h4⟩
 ·split
  ·obtain ⟨⟨h3,h5⟩,h4⟩:=itoa_good (n:=(i:Int)) (by omega);refine ⟨⟨⟨by simp only [List.length_cons];omega,fun b hb=>?_⟩,fun h=>by cases h⟩,h2⟩;rcases List.mem_cons.1 hb with rfl | hb
   ·decide
   ·exact h5 b hb
  ·split
   ·have hw:GoodTexts abcd:=by decide +kernel
    obtain ⟨h3,_⟩:=wordF_spec (ws:=abcd) (by decide) (by decide) h2;exact ⟨⟨hw _ h3,fun h=>by cases h⟩,nextP_le h2⟩
   ·exact ⟨h1,h2⟩
noncomputable def colK (l:List Int) (n p:Nat):Column×Nat:=
 (⟨wordF colNames l p,(seqF (colStep l (nextV l (nextP l p) 5)) n 0 (nextP l (nextP l p))).1⟩,(seqF (colStep l (nextV l (nextP l p) 5)) n 0 (nextP l (nextP l p))).2)
set_option maxHeartbeats 8000000 in
theorem kcolumn_spec (l:List Int) (n p:Nat) (hn:n≤50) (hp:p≤l.length):Spec Tryz.prog 112 [.bp 0 0,.int .i64 n] [(0,diceB l p)] (.agg (colK l n p).1.row) [(0,diceB l (colK l n p).2)]:=by
 have hp1:=nextP_le hp;have hp2:=nextP_le hp1;obtain ⟨_,sp1⟩:=wordF_spec (ws:=colNames) (by decide) (by decide) hp;have sp2:=next_spec l (nextP l p) 5 (by omega) hp1;have hdef:colK l n p=(⟨wordF colNames l p,(seqF (colStep l (nextV l (nextP l p) 5)) n 0 (nextP l (nextP l p))).1⟩,(seqF (colStep l (nextV l (nextP l p) 5)) n 0 (nextP l (nextP l p))).2):=rfl;rw [hdef];generalize hs:seqF (colStep l (nextV l (nextP l p) 5)) n 0 (nextP l (nextP l p))=res;generalize nextV l (nextP l p) 5=kind at *;generalize nextP l (nextP l p)=p2 at *;generalize nextP l p=p1 at *;generalize wordF colNames l p=name at *;clear hdef;refine gEn env Tryz.func112 fun Γ hN hK hML=>?_;refine gGo ?_;intros;(refine ⟨_,_,_,callG [(0,0)] [] [] rfl rfl rfl (by kernel_rfl) (sp1) (by repeat' (first | exact trivial | exact Lent.refl _ | exact Lent.norm _ | exact Lent.whole rfl rfl (by first | rfl | exact List.length_append.symm | exact hlenR | simp) rfl (by first | exact .inl rfl | exact .inr rfl) | apply And.intro)) rfl ⟨rfl,rfl,rfl,rfl,rfl,by repeat' (first | exact trivial | rfl | apply And.intro),rfl,rfl⟩,?_⟩;conv=>whnf);refine gGo ?_;intros;(refine ⟨_,_,_,callG [(0,0)] [] [] rfl rfl rfl (by kernel_rfl) (sp2) (by repeat' (first | exact trivial | exact Lent.refl _ | exact Lent.norm _ | exact Lent.whole rfl rfl (by first | rfl | exact List.length_append.symm | exact hlenR | simp) rfl (by first | exact .inl rfl | exact .inr rfl) | apply And.intro)) rfl ⟨rfl,rfl,rfl,rfl,rfl,by repeat' (first | exact trivial | rfl | apply And.intro),rfl,rfl⟩,?_⟩;conv=>whnf);refine gGo ?_;intros;refine W.ownCell 5 0 1 60 2 rfl rfl rfl rfl rfl ?_;refine W.loopG (fun m st=>∃ (j q:Nat) (out:List Cell),j≤n∧q≤l.length∧out.length=j∧res=(out++(seqF (colStep l kind) (n-j) j q).1,(seqF (colStep l kind) (n-j) j q).2)∧m=n-j∧st=⟨[(0,.bp 0 0),(4,.bp 4 0),(5,.bp 5 0),(6,.int .i64 kind),(15,.int .i64 n),(16,.int .i64 j)],[(0,[diceB l q]),(4,[.rows 2 [[.str [],.nils]] none]),(5,[.rows 2 [[.str name,.osl 60 0 0 (cellRows out).length (cellRows out).length]] none]),(60,[.rows 2 (cellRows out) (some [])])],[0,4,5,60]⟩)
  n _ ⟨0,p2,[],by omega,hp2,rfl,by rw [←hs];rfl,by omega,rfl⟩ ⟨[(0,0),(4,4),(5,5),(60,60)],[],[],.mq (.ci 0 (.ci 4 (.ci 5 (.ci 60 .nil))))⟩ ?_
 rintro m st ⟨j,q,out,hj,hq,ho,he,rfl,rfl⟩;have hol:=cellRows_len out;refine gGo ?_;intros;refine boolRes_split (fun hb=>?_) (fun hb=>?_)<;>conv=>whnf
 ·have hlt:j<n:=by omega
  obtain ⟨hc1,hc2,hc3⟩:=cellK_spec hq;have hstep:=colStep_ok (l:=l) (kind:=kind) (i:=j) (by omega) hq;rw [show n-j=(n-(j+1))+1 by omega] at he;simp only [seqF] at he;refine gGo ?_;intros;(refine ⟨_,_,_,callG [(0,0)] [] [] rfl rfl rfl (by kernel_rfl) (hc3) (by repeat' (first | exact trivial | exact Lent.refl _ | exact Lent.norm _ | exact Lent.whole rfl rfl (by first | rfl | exact List.length_append.symm | exact hlenR | simp) rfl (by first | exact .inl rfl | exact .inr rfl) | apply And.intro)) rfl ⟨rfl,rfl,rfl,rfl,rfl,by repeat' (first | exact trivial | rfl | apply And.intro),rfl,rfl⟩,?_⟩;conv=>whnf);refine gGo ?_;intros;refine boolRes_split (fun hb=>?_) (fun hb=>?_)<;>conv=>whnf
  ·have hk:colStep l kind j q=numF l (cellK l q).2:=by simp [colStep,hb]
   obtain ⟨hn1,hn2,hn3⟩:=numF_spec hc2;rw [hk] at he hstep;refine gGo ?_;intros;(refine ⟨_,_,_,callG [(0,0)] [] [] rfl rfl rfl (by kernel_rfl) (hn3) (by repeat' (first | exact trivial | exact Lent.refl _ | exact Lent.norm _ | exact Lent.whole rfl rfl (by first | rfl | exact List.length_append.symm | exact hlenR | simp) rfl (by first | exact .inl rfl | exact .inr rfl) | apply And.intro)) rfl ⟨rfl,rfl,rfl,rfl,rfl,by repeat' (first | exact trivial | rfl | apply And.intro),rfl,rfl⟩,?_⟩;conv=>whnf);refine gGo ?_;intros;refine ⟨⟨rowsSz_cons rfl rowsSz_nil,rfl⟩,fitsN (n:=(cellRows out).length+1) (b:=24) (by omega) (by omega),.inl ⟨rfl,rfl,?_⟩⟩;(conv=>whnf);refine gGo ?_;intros;refine ⟨_,_,?_,⟨j+1,_,out++[_],by omega,hstep.2,by simp;omega,(by rw [he,List.append_cons]),rfl,rfl⟩,[(0,0),(4,4),(5,5),(60,60)],[],[],LeG.mq (.ci 0 (.ci 4 (.cons 5 rfl rfl (.refl _) ?_ (.cons 60 rfl rfl (.refl _) ?_ .nil))))⟩
   ·omega
   ·rw [cellRows_snoc,List.length_append];rfl
   ·rw [cellRows_snoc];rfl
  refine gGo ?_;intros;refine boolRes_split (fun hb=>?_) (fun hb=>?_)<;>conv=>whnf
  ·have hk:colStep l kind j q=(⟨false,107::Lib.itoa j⟩,(cellK l q).2):=by simp [colStep,hb]
   obtain ⟨hi1,hi2⟩:=itoa_good (n:=(j:Int)) (by omega);have sp4:=itoa_spec (j:Int) (by omega) (by omega) (by omega);rw [hk] at he hstep;refine gGo ?_;intros;(refine gPC (sp4) ?_;conv=>whnf);refine gGo ?_;intros;refine And.intro (by show [107].length+(Lib.itoa j).length≤_;simp only [List.length_singleton];omega) ?_;(conv=>whnf);refine gGo ?_;intros;refine ⟨⟨rowsSz_cons rfl rowsSz_nil,rfl⟩,fitsN (n:=(cellRows out).length+1) (b:=24) (by omega) (by omega),.inl ⟨rfl,rfl,?_⟩⟩;(conv=>whnf);refine gGo ?_;intros;refine ⟨_,_,?_,⟨j+1,_,out++[_],by omega,hstep.2,by simp;omega,(by rw [he,List.append_cons]),rfl,rfl⟩,[(0,0),(4,4),(5,5),(60,60)],[],[],LeG.mq (.ci 0 (.ci 4 (.cons 5 rfl rfl (.refl _) ?_ (.cons 60 rfl rfl (.refl _) ?_ .nil))))⟩
   ·omega
   ·rw [cellRows_snoc,List.length_append];rfl
   ·rw [cellRows_snoc];rfl
  refine gGo ?_;intros;refine boolRes_split (fun hb=>?_) (fun hb=>?_)<;>conv=>whnf
  ·have hk:colStep l kind j q=(⟨false,wordF abcd l (cellK l q).2⟩,nextP l (cellK l q).2):=by simp [colStep,hb]
   obtain ⟨_,sp5⟩:=wordF_spec (ws:=abcd) (by decide) (by decide) hc2;rw [hk] at he hstep;refine gGo ?_;intros;(refine ⟨_,_,_,callG [(0,0)] [] [] rfl rfl rfl (by kernel_rfl) (sp5) (by repeat' (first | exact trivial | exact Lent.refl _ | exact Lent.norm _ | exact Lent.whole rfl rfl (by first | rfl | exact List.length_append.symm | exact hlenR | simp) rfl (by first | exact .inl rfl | exact .inr rfl) | apply And.intro)) rfl ⟨rfl,rfl,rfl,rfl,rfl,by repeat' (first | exact trivial | rfl | apply And.intro),rfl,rfl⟩,?_⟩;conv=>whnf);refine gGo ?_;intros;refine ⟨⟨rowsSz_cons rfl rowsSz_nil,rfl⟩,fitsN (n:=(cellRows out).length+1) (b:=24) (by omega) (by omega),.inl ⟨rfl,rfl,?_⟩⟩;(conv=>whnf);refine gGo ?_;intros;refine ⟨_,_,?_,⟨j+1,_,out++[_],by omega,hstep.2,by simp;omega,(by rw [he,List.append_cons]),rfl,rfl⟩,[(0,0),(4,4),(5,5),(60,60)],[],[],LeG.mq (.ci 0 (.ci 4 (.cons 5 rfl rfl (.refl _) ?_ (.cons 60 rfl rfl (.refl _) ?_ .nil))))⟩
   ·omega
   ·rw [cellRows_snoc,List.length_append];rfl
   ·rw [cellRows_snoc];rfl
  ·have hk:colStep l kind j q=cellK l q:=by
    unfold colStep;rw [if_neg (by assumption),if_neg (by assumption),if_neg hb]
   rw [hk] at he hstep;refine gGo ?_;intros;refine ⟨⟨rowsSz_cons rfl rowsSz_nil,rfl⟩,fitsN (n:=(cellRows out).length+1) (b:=24) (by omega) (by omega),.inl ⟨rfl,rfl,?_⟩⟩;(conv=>whnf);refine gGo ?_;intros;refine ⟨_,_,?_,⟨j+1,_,out++[_],by omega,hstep.2,by simp;omega,(by rw [he,List.append_cons]),rfl,rfl⟩,[(0,0),(4,4),(5,5),(60,60)],[],[],LeG.mq (.ci 0 (.ci 4 (.cons 5 rfl rfl (.refl _) ?_ (.cons 60 rfl rfl (.refl _) ?_ .nil))))⟩
   ·omega
   ·rw [cellRows_snoc,List.length_append];rfl
   ·rw [cellRows_snoc];rfl
 ·have hje:j=n:=by omega
  rw [hje,Nat.sub_self] at he;simp only [seqF,List.append_nil] at he;rw [he];refine gGo ?_;intros;refine W.leG (mp:=[(0,0),(4,4)]) (bo:=[60]) (st':=⟨[(4,.bp 4 0)],[(0,[diceB l q]),(4,[.rows 2 [Column.row ⟨name,out⟩] none])],[0,4]⟩)
   (LeG.mq (.ci 0 (.cons 4 (b1:=.rows 2 [Column.row ⟨name,out⟩] none) rfl rfl (.rows _ _ _ (by repeat' (first | exact trivial | exact ⟨Lent.refl _,rfl⟩ | exact ⟨Lent.norm _,rfl⟩ | exact ⟨Lent.whole rfl rfl (by first | rfl | exact List.length_append.symm | exact hlenR | simp) rfl (by first | exact .inl rfl | exact .inr rfl),rfl⟩ | apply And.intro))) rfl .nil))) ?_
  (refine gM ?_;conv=>whnf);exact retH rfl (.refl _) rfl rfl rfl ⟨rfl,rfl,trivial⟩
structure GoodCol (n:Nat) (c:Column):Prop where
 name:GoodText c.name
 len:c.cells.length=n
 cells:∀ x∈c.cells,GoodCell x
structure GoodTab (t:Table):Prop where
 name:GoodText t.name
 few:t.cols.length≤3
 cols:∃ n,n≤6∧∀ c∈t.cols,GoodCol n c
theorem colK_ok {l:List Int}{n p:Nat}(hn:n≤50) (hp:p≤l.length):GoodCol n (colK l n p).1∧(colK l n p).2≤l.length:=by
 have hp1:=nextP_le hp;have hp2:=nextP_le hp1;have hw:GoodTexts colNames:=by decide +kernel
 obtain ⟨h1,_⟩:=wordF_spec (ws:=colNames) (by decide) (by decide) hp;obtain ⟨h2,h3⟩:=seqK_ok (step:=colStep l (nextV l (nextP l p) 5)) (Q:=GoodCell) (B:=100) (fun i p hi hp=>colStep_ok hi hp) n 0 _ (by omega) hp2;exact ⟨⟨hw _ h1,seqF_len _ _ _ _,h2⟩,h3⟩
def tblNames:List Str:=[[116],[111,114,100,101,114,115],[]]
noncomputable def tblC (l:List Int) (p:Nat):List Column×Nat:=
 seqF (fun _ q=>colK l (nextV l (nextP l p) 7).toNat q) (1+(nextV l (nextP l (nextP l p)) 3).toNat) 0 (nextP l (nextP l (nextP l p)))
noncomputable def tblF (l:List Int) (id:Int) (p:Nat):Table×Nat:=
 (⟨id,wordF tblNames l p,if nextV l (tblC l p).2 15=1 then [] else (tblC l p).1⟩,nextP l (tblC l p).2)
theorem tblC_ok {l:List Int}{p:Nat}(hp:p≤l.length):((tblC l p).1.length≤3∧∀ c∈(tblC l p).1,GoodCol (nextV l (nextP l p) 7).toNat c)∧(tblC l p).2≤l.length:=by
 have hp1:=nextP_le hp;have hp2:=nextP_le hp1;have hp3:=nextP_le hp2;have hr:=nextV_range l (nextP l p) (n:=7) (by omega);have hr2:=nextV_range l (nextP l (nextP l p)) (n:=3) (by omega);obtain ⟨h2,h3⟩:=seqK_ok (step:=fun _ q=>colK l (nextV l (nextP l p) 7).toNat q) (Q:=GoodCol (nextV l (nextP l p) 7).toNat) (B:=100) (fun i q hi hq=>colK_ok (by omega) hq) (1+(nextV l (nextP l (nextP l p)) 3).toNat) 0 _ (by omega) hp3;exact ⟨⟨by unfold tblC;rw [seqF_len];omega,h2⟩,h3⟩
theorem tblF_ok {l:List Int}{id:Int}{p:Nat}(hp:p≤l.length):GoodTab (tblF l id p).1∧(tblF l id p).1.id=id∧(tblF l id p).2≤l.length:=by
 have hw:GoodTexts tblNames:=by decide +kernel
 obtain ⟨h1,_⟩:=wordF_spec (ws:=tblNames) (by decide) (by decide) hp;obtain ⟨⟨h2,h3⟩,h4⟩:=tblC_ok hp;have hr:=nextV_range l (nextP l p) (n:=7) (by omega);refine ⟨⟨hw _ h1,?_,(nextV l (nextP l p) 7).toNat,by omega,?_⟩,rfl,nextP_le h4⟩
 ·simp only [tblF];split
  ·simp
  ·exact h2
 ·simp only [tblF];split
  ·simp
  ·exact h3
set_option maxHeartbeats 8000000 in
theorem table_spec (l:List Int) (id:Int) (p:Nat) (hp:p≤l.length):Spec Tryz.prog 63 [.bp 0 0,.int .i64 id] [(0,diceB l p)] (.agg (tblF l id p).1.row) [(0,diceB l (tblF l id p).2)]:=by
 have hp1:=nextP_le hp;have hp2:=nextP_le hp1;have hp3:=nextP_le hp2;obtain ⟨_,hp4⟩:=tblC_ok hp;obtain ⟨_,sp1⟩:=wordF_spec (ws:=tblNames) (by decide) (by decide) hp;have sp2:=next_spec l (nextP l p) 7 (by omega) hp1;have sp3:=next_spec l (nextP l (nextP l p)) 3 (by omega) hp2;have sp4:=next_spec l (tblC l p).2 15 (by omega) hp4;have hr:=nextV_range l (nextP l p) (n:=7) (by omega);have hr2:=nextV_range l (nextP l (nextP l p)) (n:=3) (by omega);have hdef:tblF l id p=(⟨id,wordF tblNames l p,if nextV l (tblC l p).2 15=1 then [] else (tblC l p).1⟩,nextP l (tblC l p).2):=rfl;have hC:tblC l p=seqF (fun _ q=>colK l (nextV l (nextP l p) 7).toNat q) (1+(nextV l (nextP l (nextP l p)) 3).toNat) 0 (nextP l (nextP l (nextP l p))):=rfl;obtain ⟨n,hn⟩:=Int.eq_ofNat_of_zero_le hr.1;obtain ⟨k3,hk3⟩:=Int.eq_ofNat_of_zero_le hr2.1;rw [hdef];rw [hn] at sp2 hr hC;rw [hk3] at sp3 hr2 hC;rw [Int.toNat_natCast,Int.toNat_natCast] at hC;generalize tblC l p=res at *;generalize nextV l res.2 15=v15 at *;generalize nextP l (nextP l (nextP l p))=p3 at *;generalize nextP l (nextP l p)=p2 at *;generalize nextP l p=p1 at *;generalize wordF tblNames l p=name at *;clear hdef;refine gEn env Tryz.func63 fun Γ hN hK hML=>?_;refine gGo ?_;intros;(refine ⟨_,_,_,callG [(0,0)] [] [] rfl rfl rfl (by kernel_rfl) (sp1) (by repeat' (first | exact trivial | exact Lent.refl _ | exact Lent.norm _ | exact Lent.whole rfl rfl (by first | rfl | exact List.length_append.symm | exact hlenR | simp) rfl (by first | exact .inl rfl | exact .inr rfl) | apply And.intro)) rfl ⟨rfl,rfl,rfl,rfl,rfl,by repeat' (first | exact trivial | rfl | apply And.intro),rfl,rfl⟩,?_⟩;conv=>whnf);refine gGo ?_;intros;(refine ⟨_,_,_,callG [(0,0)] [] [] rfl rfl rfl (by kernel_rfl) (sp2) (by repeat' (first | exact trivial | exact Lent.refl _ | exact Lent.norm _ | exact Lent.whole rfl rfl (by first | rfl | exact List.length_append.symm | exact hlenR | simp) rfl (by first | exact .inl rfl | exact .inr rfl) | apply And.intro)) rfl ⟨rfl,rfl,rfl,rfl,rfl,by repeat' (first | exact trivial | rfl | apply And.intro),rfl,rfl⟩,?_⟩;conv=>whnf);refine gGo ?_;intros;(refine ⟨_,_,_,callG [(0,0)] [] [] rfl rfl rfl (by kernel_rfl) (sp3) (by repeat' (first | exact trivial | exact Lent.refl _ | exact Lent.norm _ | exact Lent.whole rfl rfl (by first | rfl | exact List.length_append.symm | exact hlenR | simp) rfl (by first | exact .inl rfl | exact .inr rfl) | apply And.intro)) rfl ⟨rfl,rfl,rfl,rfl,rfl,by repeat' (first | exact trivial | rfl | apply And.intro),rfl,rfl⟩,?_⟩;conv=>whnf);refine gGo ?_;intros;refine W.ownCell 5 0 2 60 2 rfl rfl rfl rfl rfl ?_;refine W.loopG (fun m st=>∃ (j i q:Nat) (out:List Column),j≤3∧q≤l.length∧out.length+j≤3∧res=(out++(seqF (fun _ q=>colK l n q) j i q).1,(seqF (fun _ q=>colK l n q) j i q).2)∧m=j∧st=⟨[(0,.bp 0 0),(4,.bp 4 0),(5,.bp 5 0),(6,.int .i64 n),(7,.int .i64 j)],[(0,[diceB l q]),(4,[.rows 3 [[.int .i64 0,.str [],.nils]] none]),(5,[.rows 3 [[.int .i64 id,.str name,.osl 60 0 0 (colRows out).length (colRows out).length]] none]),(60,[.rows 2 (colRows out) (some [])])],[0,4,5,60]⟩)
  (1+k3) _ ⟨1+k3,0,p3,[],by omega,hp3,by simp;omega,by rw [hC];rfl,rfl,rfl⟩ ?_ ?_
 ·exact ⟨[(0,0),(4,4),(5,5),(60,60)],[],[],LeG.mk' rfl rfl rfl (by repeat' (first | exact trivial | exact ⟨_,.refl _,rfl⟩ | exact ⟨_,.refl _,by show V.int .i64 (1+(k3:Int))=V.int .i64 ((1+k3:Nat):Int);congr 1⟩ | apply And.intro)) (.ci 0 (.ci 4 (.ci 5 (.ci 60 .nil)))) rfl rfl (by rw [hK];rfl)⟩
 rintro m st ⟨j,i,q,out,hj,hq,ho,he,rfl,rfl⟩;have hol:=colRows_len out;rcases m with _ | j
 ·have h0:((0:Nat):Int)=0:=rfl;simp only [seqF,List.append_nil] at he;have hq2:res.2=q:=by rw [he]
  have ho2:res.1=out:=by rw [he]
  rw [hq2] at sp4;rw [hq2,ho2];clear he;refine gGo ?_;intros;(refine ⟨_,_,_,callG [(0,0)] [] [] rfl rfl rfl (by kernel_rfl) (sp4) (by repeat' (first | exact trivial | exact Lent.refl _ | exact Lent.norm _ | exact Lent.whole rfl rfl (by first | rfl | exact List.length_append.symm | exact hlenR | simp) rfl (by first | exact .inl rfl | exact .inr rfl) | apply And.intro)) rfl ⟨rfl,rfl,rfl,rfl,rfl,by repeat' (first | exact trivial | rfl | apply And.intro),rfl,rfl⟩,?_⟩;conv=>whnf);refine gGo ?_;intros;refine boolRes_split (fun hb=>?_) (fun hb=>?_)<;>conv=>whnf
  ·rw [if_pos hb];refine gGo ?_;intros;(refine gM ?_;conv=>whnf);exact retH rfl (.norm _) rfl rfl rfl ⟨rfl,rfl,trivial⟩
  ·rw [if_neg hb];refine gGo ?_;intros;refine W.leG (mp:=[(0,0),(4,4)]) (bo:=[60]) (st':=⟨[(4,.bp 4 0)],[(0,[diceB l (nextP l q)]),(4,[.rows 3 [Table.row ⟨id,name,out⟩] none])],[0,4]⟩)
    (LeG.mq (.ci 0 (.cons 4 (b1:=.rows 3 [Table.row ⟨id,name,out⟩] none) rfl rfl (.rows _ _ _ (by repeat' (first | exact trivial | exact ⟨Lent.refl _,rfl⟩ | exact ⟨Lent.norm _,rfl⟩ | exact ⟨Lent.whole rfl rfl (by first | rfl | exact List.length_append.symm | exact hlenR | simp) rfl (by first | exact .inl rfl | exact .inr rfl),rfl⟩ | apply And.intro))) rfl .nil))) ?_
   (refine gM ?_;conv=>whnf);exact retH rfl (.refl _) rfl rfl rfl ⟨rfl,rfl,trivial⟩
 ·have sp5:=kcolumn_spec l n q (by omega) hq;obtain ⟨_,hq2⟩:=colK_ok (n:=n) (by omega) hq;simp only [seqF] at he;refine gGo ?_;intros;(refine ⟨_,_,_,callG [(0,0)] [] [] rfl rfl rfl (by kernel_rfl) (sp5) (by repeat' (first | exact trivial | exact Lent.refl _ | exact Lent.norm _ | exact Lent.whole rfl rfl (by first | rfl | exact List.length_append.symm | exact hlenR | simp) rfl (by first | exact .inl rfl | exact .inr rfl) | apply And.intro)) rfl ⟨rfl,rfl,rfl,rfl,rfl,by repeat' (first | exact trivial | rfl | apply And.intro),rfl,rfl⟩,?_⟩;conv=>whnf);refine gGo ?_;intros;refine ⟨⟨rowsSz_cons rfl rowsSz_nil,rfl⟩,fitsN (n:=(colRows out).length+1) (b:=40) (by omega) (by omega),.inl ⟨rfl,rfl,?_⟩⟩;(conv=>whnf);refine gGo ?_;intros;refine ⟨_,_,?_,⟨j,i+1,_,out++[_],by omega,hq2,by simp;omega,(by rw [he,List.append_cons]),rfl,rfl⟩,[(0,0),(4,4),(5,5),(60,60)],[],[],LeG.mk' rfl rfl rfl ⟨⟨_,.refl _,rfl⟩,⟨_,.refl _,rfl⟩,⟨_,.refl _,rfl⟩,⟨_,.refl _,rfl⟩,⟨_,.refl _,(by show V.int .i64 (((j+1:Nat):Int)-1)=_;congr 1;omega)⟩,trivial⟩ (.ci 0 (.ci 4 (.cons 5 rfl rfl (.refl _) ?_ (.cons 60 rfl rfl (.refl _) ?_ .nil)))) rfl rfl (by rw [hK];rfl)⟩
  ·omega
  ·rw [colRows_snoc,List.length_append];rfl
  ·rw [colRows_snoc];rfl
def cmpV (a b:Cell):Int:=if (a.null&&b.null)=true then 0 else if a.null=true then -1 else if b.null=true then 1 else if Op.bytesLess a.text b.text=true then -1 else if Op.bytesLess a.text b.text=false∧a.text≠b.text then 1 else 0
theorem cmpV_spec (a b:Cell):Spec Tryz.prog 215 [.agg a.row,.agg b.row] [] (.int .i64 (cmpV a b)) []:=by
 obtain ⟨an,s⟩:=a;obtain ⟨bn,u⟩:=b;cases an with
 | true =>
  cases bn with
  | true =>
   refine gEn env Tryz.func215 fun Γ hN hK hML=>?_;exact gR
  | false =>
   refine gEn env Tryz.func215 fun Γ hN hK hML=>?_;exact gR
 | false =>
  cases bn with
  | true =>
   refine gEn env Tryz.func215 fun Γ hN hK hML=>?_;exact gR
  | false =>
   by_cases h1:Op.bytesLess s u=true
   ·have hT:cmpV ⟨false,s⟩ ⟨false,u⟩=-1:=by simp [cmpV,h1]
    rw [hT];refine gEn env Tryz.func215 fun Γ hN hK hML=>?_;exact gR
   ·by_cases h2:Op.bytesLess s u=false∧s≠u
    ·have hT:cmpV ⟨false,s⟩ ⟨false,u⟩=1:=by simp [cmpV,h1,h2]
     rw [hT];refine gEn env Tryz.func215 fun Γ hN hK hML=>?_;exact gR
    ·have hT:cmpV ⟨false,s⟩ ⟨false,u⟩=0:=by
      unfold cmpV;rw [if_neg (by simp),if_neg (by simp),if_neg (by simp),if_neg h1,if_neg h2]
     rw [hT];refine gEn env Tryz.func215 fun Γ hN hK hML=>?_;exact gR
def eqRow (t:Table) (x y:Nat):Bool:=(List.range t.cols.length).all fun k=>decide (cellT t k x=cellT t k y)
set_option maxHeartbeats 4000000 in
theorem equal38_spec {t:Table}(ht:RectT t) {x y:Nat}(hx:x<rowsN t) (hy:y<rowsN t):Spec Tryz.prog 214 [.agg t.row,.int .i64 (x:Nat),.int .i64 (y:Nat)] [] (.bool (eqRow t x y)) []:=by
 have hcl:=colRows_len t.cols;refine gEn env Tryz.func214 fun Γ hN hK hML=>?_;(refine g ?_;intros);refine W.loopG (fun n st=>∃ k:Nat,k≤t.cols.length∧(∀ j,j<k→cellT t j x=cellT t j y)∧n=t.cols.length-k∧st=⟨[(1,.int .i64 (x:Nat)),(2,.int .i64 (y:Nat)),(10,.sl (colRows t.cols) false),(11,.int .i64 (colRows t.cols).length),(12,.int .i64 (k:Nat))],[],[]⟩)
  t.cols.length _ ⟨0,by omega,fun j hj=>by omega,by omega,rfl⟩ ⟨[],[],[],.mq .nil⟩ ?_
 rintro n st ⟨k,hk,he,rfl,rfl⟩;(refine g ?_;intros);refine boolRes_split (fun hb=>?_) (fun hb=>?_)<;>conv=>whnf
 ·have hkl:k<t.cols.length:=by omega
  have hcg:=colRows_get hkl;obtain ⟨gx,hl1⟩:=cellT_get ht hkl hx;obtain ⟨gy,_⟩:=cellT_get ht hkl hy;by_cases e:cellT t k x=cellT t k y
  ·(refine g ?_;intros);refine ⟨_,_,_,cells_ne rfl (cellT t k x) (cellT t k y) rfl rfl (by kernel_rfl),?_⟩;rw [decide_eq_true e];(conv=>whnf);(refine g ?_;intros);exact gZ ⟨k+1,by omega,fun j hj=>by
    by_cases h:j=k
    ·subst h;exact e
    ·exact he j (by omega),rfl,rfl⟩
  ·have hT:eqRow t x y=false:=by
    unfold eqRow;rw [List.all_eq_false];exact ⟨k,List.mem_range.2 hkl,by simpa using e⟩
   rw [hT];(refine g ?_;intros);refine ⟨_,_,_,cells_ne rfl (cellT t k x) (cellT t k y) rfl rfl (by kernel_rfl),?_⟩;rw [decide_eq_false e];(conv=>whnf);exact gR
 ·have hke:k=t.cols.length:=by omega
  subst hke;have hT:eqRow t x y=true:=by
   unfold eqRow;rw [List.all_eq_true];exact fun j hj=>decide_eq_true (he j (List.mem_range.1 hj))
  rw [hT];exact gR
structure OpR where
 kind:Int
 col:Int
 text:Str
 cols:List Int
def OpR.row (o:OpR):List V:=[.int .i64 o.kind,.int .i64 o.col,.str o.text,.sl (intRows .i64 o.cols) false]
structure GoodOp (t:Table) (o:OpR):Prop where
 kind:1≤o.kind∧o.kind≤5
 col:0≤o.col∧(0<t.cols.length→o.col<t.cols.length)∧((o.kind=3∨o.kind=4)→o.col=0)
 text:o.text.length≤1024∧(o.kind≠1→o.text=[])
 cols:(o.kind≠3→o.cols=[])∧o.cols.length≤3∧∀ k∈o.cols,0≤k∧k<t.cols.length
def canB (t:Table) (o:OpR):Bool:=decide (o.kind=3∨o.kind=4∨0<t.cols.length)
theorem notK {a:Int}{n:Nat}(h:¬ 0<n) (h3:a≠3) (h4:a≠4):¬ (a=3∨a=4∨0<n):=fun g=>g.elim h3 fun g=>g.elim h4 h
set_option maxHeartbeats 4000000 in
theorem can38_spec {t:Table}{o:OpR}(h:GoodOp t o):Spec Tryz.prog 156 [.agg t.row,.agg o.row] [] (.bool (canB t o)) []:=by
 obtain ⟨⟨k1,k2⟩,⟨c1,c2,c3⟩,⟨x1,x2⟩,y1,y2,y3⟩:=h;obtain ⟨kind,col,text,cols⟩:=o;simp only at k1 k2 c1 c2 c3 x1 x2 y1 y2 y3;have hcl:=colRows_len t.cols;have hil:=intRows_len .i64 cols;rcases (show kind=1∨kind=2∨kind=3∨kind=4∨kind=5 by omega) with rfl | rfl | rfl | rfl | rfl
 ·have e:=y1 (by decide);subst e;have hz:(intRows .i64 ([]:List Int)).length=0:=rfl;by_cases h0:0<t.cols.length
  ·have:=c2 h0;rw [show canB t ⟨1,col,text,[]⟩=true from decide_eq_true (.inr (.inr h0))];show Spec Tryz.prog 156 [.agg t.row,.agg [.int .i64 1,.int .i64 col,.str text,.sl (intRows .i64 []) false]] [] _ [];refine gEn env Tryz.func156 fun Γ hN hK hML=>?_;exact gR
  ·rw [show canB t ⟨1,col,text,[]⟩=false from decide_eq_false (notK (a:=1) h0 (by decide) (by decide))];show Spec Tryz.prog 156 [.agg t.row,.agg [.int .i64 1,.int .i64 col,.str text,.sl (intRows .i64 []) false]] [] _ [];refine gEn env Tryz.func156 fun Γ hN hK hML=>?_;exact gR
 ·have e:=y1 (by decide);have e2:=x2 (by decide);subst e e2;have hz:(intRows .i64 ([]:List Int)).length=0:=rfl;by_cases h0:0<t.cols.length
  ·have:=c2 h0;rw [show canB t ⟨2,col,[],[]⟩=true from decide_eq_true (.inr (.inr h0))];show Spec Tryz.prog 156 [.agg t.row,.agg [.int .i64 2,.int .i64 col,.str [],.sl (intRows .i64 []) false]] [] _ [];refine gEn env Tryz.func156 fun Γ hN hK hML=>?_;exact gR
  ·rw [show canB t ⟨2,col,[],[]⟩=false from decide_eq_false (notK (a:=2) h0 (by decide) (by decide))];show Spec Tryz.prog 156 [.agg t.row,.agg [.int .i64 2,.int .i64 col,.str [],.sl (intRows .i64 []) false]] [] _ [];refine gEn env Tryz.func156 fun Γ hN hK hML=>?_;exact gR
 ·have e:=c3 (.inl rfl);have e2:=x2 (by decide);subst e e2;rw [show canB t ⟨3,0,[],cols⟩=true from decide_eq_true (.inl rfl)];show Spec Tryz.prog 156 [.agg t.row,.agg [.int .i64 3,.int .i64 0,.str [],.sl (intRows .i64 cols) false]] [] _ [];refine gEn env Tryz.func156 fun Γ hN hK hML=>?_;refine gA ?_;(refine gE env hN (by kernel_rfl) ?_;conv=>whnf);refine gGs ?_;intros;refine W.cut (fun z=>∃ b,z=⟨[(2,.bp 2 0),(3,.bp 3 0),(5,.bool b)],[(2,[.rows 3 [t.row] none]),(3,[.rows 4 [[.int .i64 3,.int .i64 0,.str [],.sl (intRows .i64 cols) false]] none])],[2,3]⟩) ?_ ?_
  ·by_cases h0:0<t.cols.length
   ·(refine g ?_;intros);exact ⟨_,⟨_,rfl⟩,gY⟩
   ·(refine g ?_;intros);exact ⟨_,⟨_,rfl⟩,gY⟩
  rintro z ⟨b,rfl⟩;(refine g ?_;intros);refine W.loopG (fun n st=>∃ k:Nat,k≤cols.length∧n=cols.length-k∧st=⟨[(2,.bp 2 0),(3,.bp 3 0),(54,.sl (intRows .i64 cols) false),(55,.int .i64 (intRows .i64 cols).length),(56,.int .i64 (k:Nat))],[(2,[.rows 3 [t.row] none]),(3,[.rows 4 [[.int .i64 3,.int .i64 0,.str [],.sl (intRows .i64 cols) false]] none])],[2,3]⟩)
   cols.length _ ⟨0,by omega,by omega,rfl⟩ gX ?_
  rintro n st ⟨k,hk,rfl,rfl⟩;(refine g ?_;intros);refine boolRes_split (fun hb=>?_) (fun hb=>?_)<;>conv=>whnf
  ·have hkl:k<cols.length:=by omega
   have hkg:=intRows_get (k:=.i64) hkl;obtain ⟨g1,g2⟩:=y3 _ (List.getElem_mem hkl);generalize cols[k]=c at *;(refine g ?_;intros);exact gZ ⟨k+1,by omega,rfl,rfl⟩
  ·exact gR
 ·have e:=y1 (by decide);have e2:=x2 (by decide);have e3:=c3 (.inr rfl);subst e e2 e3;have hz:(intRows .i64 ([]:List Int)).length=0:=rfl;rw [show canB t ⟨4,0,[],[]⟩=true from decide_eq_true (.inr (.inl rfl))];show Spec Tryz.prog 156 [.agg t.row,.agg [.int .i64 4,.int .i64 0,.str [],.sl (intRows .i64 []) false]] [] _ [];refine gEn env Tryz.func156 fun Γ hN hK hML=>?_;by_cases h0:0<t.cols.length
  ·exact gR
  ·exact gR
 ·have e:=y1 (by decide);have e2:=x2 (by decide);subst e e2;have hz:(intRows .i64 ([]:List Int)).length=0:=rfl;by_cases h0:0<t.cols.length
  ·have:=c2 h0;rw [show canB t ⟨5,col,[],[]⟩=true from decide_eq_true (.inr (.inr h0))];show Spec Tryz.prog 156 [.agg t.row,.agg [.int .i64 5,.int .i64 col,.str [],.sl (intRows .i64 []) false]] [] _ [];refine gEn env Tryz.func156 fun Γ hN hK hML=>?_;exact gR
  ·rw [show canB t ⟨5,col,[],[]⟩=false from decide_eq_false (notK (a:=5) h0 (by decide) (by decide))];show Spec Tryz.prog 156 [.agg t.row,.agg [.int .i64 5,.int .i64 col,.str [],.sl (intRows .i64 []) false]] [] _ [];refine gEn env Tryz.func156 fun Γ hN hK hML=>?_;exact gR
theorem pbC (l:List Cell):pureB (cellRows l)=true:=by
 unfold pureB cellRows;rw [List.all_eq_true];intro r hr;obtain ⟨c,_,rfl⟩:=List.mem_map.1 hr;rfl
set_option maxHeartbeats 4000000 in
theorem copy38_spec (t:Table) (h1:t.cols.length≤1000) (h2:∀ c∈t.cols,c.cells.length≤100000):Spec Tryz.prog 115 [.agg t.row] [] (.agg t.row) []:=by
 have hcl:=colRows_len t.cols;refine gEn env Tryz.func115 fun Γ hN hK hML=>?_;(refine g ?_;intros);refine W.ownCell 3 0 2 27 2 rfl rfl rfl rfl rfl ?_;refine W.loopG (fun n st=>∃ (k:Nat) (C:List Column),k≤t.cols.length∧C=t.cols.take k∧n=t.cols.length-k∧st=⟨[(1,.bp 1 0),(2,.bp 2 0),(3,.bp 3 0),(12,.sl (colRows t.cols) false),(13,.int .i64 (colRows t.cols).length),(14,.int .i64 (k:Nat))],[(1,[.rows 3 [t.row] none]),(2,[.rows 3 [[.int .i64 0,.str [],.nils]] none]),(3,[.rows 3 [[.int .i64 t.id,.str t.name,.osl 27 0 0 (colRows C).length (colRows C).length]] none]),(27,[.rows 2 (colRows C) (some [])])],[1,2,3,27]⟩)
  t.cols.length _ ⟨0,[],Nat.zero_le _,rfl,rfl,rfl⟩ gX ?_
 rintro n st ⟨k,C,hk,hC,rfl,rfl⟩;have hwl:=colRows_len C;have hCl:C.length=k:=by rw [hC,List.length_take];omega
 (refine g ?_;intros);refine boolRes_split (fun hb=>?_) (fun hb=>?_)<;>conv=>whnf
 ·have hlt:k<t.cols.length:=by omega
  have hx:=colRows_get hlt;have hcc:=h2 _ (List.getElem_mem hlt);have htk:t.cols.take (k+1)=C++[t.cols[k]]:=by rw [hC,List.take_succ_eq_append_getElem hlt]
  generalize t.cols[k]=c at *;have hcr:=cellRows_len c.cells;(refine g ?_;intros);refine ⟨cellRows_sz _,fitsN (n:=(cellRows c.cells).length) (b:=24) (by omega) (by omega),Or.inr ⟨⟨rfl,rfl,rfl,pbC _⟩,?_⟩⟩;(conv=>whnf);(refine g ?_;intros);refine ⟨⟨rowsSz_cons rfl rowsSz_nil,rfl⟩,fitsN (n:=(colRows C).length+1) (b:=40) (by omega) (by omega),.inl ⟨rfl,rfl,?_⟩⟩;(conv=>whnf);(refine g ?_;intros);refine ⟨_,_,?_,⟨k+1,C++[c],by omega,htk.symm,rfl,rfl⟩,?_⟩
  ·omega
  ·rw [colRows_snoc,List.length_append];exact gX
 ·have hke:k=t.cols.length:=by omega
  rw [hke,List.take_length] at hC;subst hC;refine gGo ?_;intros;refine W.leG (mp:=[(2,2)]) (bo:=[27]) (st':=⟨[(2,.bp 2 0)],[(2,[.rows 3 [t.row] none])],[2]⟩) (LeG.mq (.cons 2 (b1:=.rows 3 [t.row] none) rfl rfl (.rows _ _ _ (by repeat' (first | exact trivial | exact ⟨Lent.refl _,rfl⟩ | exact ⟨Lent.norm _,rfl⟩ | exact ⟨Lent.whole rfl rfl (by first | rfl | exact List.length_append.symm | exact hlenR | simp) rfl (by first | exact .inl rfl | exact .inr rfl),rfl⟩ | apply And.intro))) rfl .nil)) ?_;(refine gM ?_;conv=>whnf);exact ret0 rfl rfl rfl
def projT (t:Table) (ks:List Int):Table:=⟨t.id,t.name,ks.map fun k=>t.cols.getD k.toNat ⟨[],[]⟩⟩
set_option maxHeartbeats 4000000 in
theorem proj38_spec {t:Table}(hv:validB t=true) {ks:List Int}(hk:∀ k∈ks,0≤k∧k<t.cols.length) (hl:ks.length≤64):Spec Tryz.prog 193 [.agg t.row,.sl (intRows .i64 ks) false] [] (.tup [.agg (projT t ks).row,.int .i64 0]) []:=by
 have hcl:=colRows_len t.cols;have hil:=intRows_len .i64 ks;have spV:=valid3_spec t;rw [hv] at spV;refine gEn env Tryz.func193 fun Γ hN hK hML=>?_;(refine g ?_;intros);refine W.ownCell 6 0 2 27 2 rfl rfl rfl rfl rfl ?_;refine W.loopG (fun n st=>∃ (k:Nat) (C:List Column),k≤ks.length∧C=(projT t (ks.take k)).cols∧n=ks.length-k∧st=⟨[(1,.sl (intRows .i64 ks) false),(2,.bp 2 0),(4,.bp 4 0),(6,.bp 6 0),(18,.sl (intRows .i64 ks) false),(19,.int .i64 (intRows .i64 ks).length),(20,.int .i64 (k:Nat))],[(2,[.rows 3 [t.row] none]),(4,[.rows 3 [[.int .i64 0,.str [],.nils]] none]),(6,[.rows 3 [[.int .i64 t.id,.str t.name,.osl 27 0 0 (colRows C).length (colRows C).length]] none]),(27,[.rows 2 (colRows C) (some [])])],[2,4,6,27]⟩)
  ks.length _ ⟨0,[],Nat.zero_le _,rfl,rfl,rfl⟩ gX ?_
 rintro n st ⟨k,C,hkk,hC,rfl,rfl⟩;have hwl:=colRows_len C;have hCl:C.length=k:=by rw [hC];simp [projT];omega
 (refine g ?_;intros);refine boolRes_split (fun hb=>?_) (fun hb=>?_)<;>conv=>whnf
 ·have hlt:k<ks.length:=by omega
  have hkg:=intRows_get (k:=.i64) hlt;obtain ⟨g1,g2⟩:=hk _ (List.getElem_mem hlt);have htk:(projT t (ks.take (k+1))).cols=C++[t.cols.getD ks[k].toNat ⟨[],[]⟩]:=by
   rw [hC,List.take_succ_eq_append_getElem hlt];unfold projT;rw [List.map_append];rfl
  generalize ks[k]=x at *;obtain ⟨x,rfl⟩:=Int.eq_ofNat_of_zero_le g1;have hxl:x<t.cols.length:=by omega
  have hcg:=colRows_get hxl;rw [Int.toNat_natCast,show t.cols.getD x ⟨[],[]⟩=t.cols[x] by simp [List.getD_eq_getElem?_getD,hxl]] at htk;generalize t.cols[x]=c at *;(refine g ?_;intros);refine ⟨⟨rowsSz_cons rfl rowsSz_nil,rfl⟩,fitsN (n:=(colRows C).length+1) (b:=40) (by omega) (by omega),.inl ⟨rfl,rfl,?_⟩⟩;(conv=>whnf);(refine g ?_;intros);refine ⟨_,_,?_,⟨k+1,C++[c],by omega,htk.symm,rfl,rfl⟩,?_⟩
  ·omega
  ·rw [colRows_snoc,List.length_append];exact gX
 ·have hke:k=ks.length:=by omega
  rw [hke,List.take_length] at hC;subst hC;refine gGo ?_;intros;refine W.leG (mp:=[(4,4)]) (bo:=[27]) (st':=⟨[(4,.bp 4 0),(5,.int .i64 0)],[(4,[.rows 3 [(projT t ks).row] none])],[4]⟩) (LeG.mq (.cons 4 (b1:=.rows 3 [(projT t ks).row] none) rfl rfl (.rows _ _ _ (by repeat' (first | exact trivial | exact ⟨Lent.refl _,rfl⟩ | exact ⟨Lent.norm _,rfl⟩ | exact ⟨Lent.whole rfl rfl (by first | rfl | exact List.length_append.symm | exact hlenR | simp) rfl (by first | exact .inl rfl | exact .inr rfl),rfl⟩ | apply And.intro))) rfl .nil)) ?_;(refine gM ?_;conv=>whnf);exact ret0 rfl rfl rfl
def selC (R:List Nat) (c:Column):Column:=⟨c.name,R.map fun k=>c.cells.getD k ⟨false,[]⟩⟩
def selT (t:Table) (R:List Nat):Table:=⟨t.id,t.name,t.cols.map (selC R)⟩
set_option maxHeartbeats 16000000 in
theorem sel38_spec {t:Table}(hv:validB t=true) {R:List Nat}(hR:∀ k∈R,k<rowsN t) (hl:R.length≤4096):Spec Tryz.prog 194 [.agg t.row,.sl (natRows R) false] [] (.tup [.agg (selT t R).row,.int .i64 0]) []:=by
 have hcl:=colRows_len t.cols;have hnl:=natRows_len R;have spV:=valid3_spec t;have spR:=rows3_spec t;have hrect:=(validB_rows hv).2;have hc64:t.cols.length≤64:=by
  simp only [validB,headB,Bool.and_eq_true,decide_eq_true_eq] at hv;omega
 rw [hv] at spV;refine gEn env Tryz.func194 fun Γ hN hK hML=>?_;(refine g ?_;intros);refine W.loopG (fun n st=>∃ (k:Nat),k≤R.length∧n=R.length-k∧st=⟨[(1,.sl (natRows R) false),(2,.bp 2 0),(4,.bp 4 0),(18,.sl (natRows R) false),(19,.int .i64 (natRows R).length),(20,.int .i64 (k:Nat))],[(2,[.rows 3 [t.row] none]),(4,[.rows 3 [[.int .i64 0,.str [],.nils]] none])],[2,4]⟩)
  R.length _ ⟨0,Nat.zero_le _,rfl,rfl⟩ gX ?_
 rintro n st ⟨k,hkk,rfl,rfl⟩;(refine g ?_;intros);refine boolRes_split (fun hb=>?_) (fun hb=>?_)<;>conv=>whnf
 ·have hlt:k<R.length:=by omega
  have hkg:=natRows_get hlt;have hkr:=hR _ (List.getElem_mem hlt);generalize R[k]=x at *;(refine g ?_;intros);exact gZ ⟨k+1,by omega,rfl,rfl⟩
 ·(refine g ?_;intros);refine W.ownCell 8 0 2 27 2 rfl rfl rfl rfl rfl ?_;refine W.loopG (fun n st=>∃ (j:Nat) (C:List Column),j≤t.cols.length∧C=(t.cols.take j).map (selC R)∧n=t.cols.length-j∧st=⟨[(1,.sl (natRows R) false),(4,.bp 4 0),(8,.bp 8 0),(44,.sl (colRows t.cols) false),(45,.int .i64 (colRows t.cols).length),(46,.int .i64 (j:Nat))],[(4,[.rows 3 [[.int .i64 0,.str [],.nils]] none]),(8,[.rows 3 [[.int .i64 t.id,.str t.name,.osl 27 0 0 (colRows C).length (colRows C).length]] none]),(27,[.rows 2 (colRows C) (some [])])],[4,8,27]⟩)
   t.cols.length _ ⟨0,[],Nat.zero_le _,rfl,rfl,rfl⟩ gX ?_
  rintro n st ⟨j,C,hj,hC,rfl,rfl⟩;have hwl:=colRows_len C;have hCl:C.length=j:=by rw [hC,List.length_map,List.length_take];omega
  (refine g ?_;intros);refine boolRes_split (fun hb=>?_) (fun hb=>?_)<;>conv=>whnf
  ·have hlt:j<t.cols.length:=by omega
   have hcg:=colRows_get hlt;have hcr:=hrect _ (List.getElem_mem hlt);have htk:(t.cols.take (j+1)).map (selC R)=C++[selC R t.cols[j]]:=by rw [hC,List.take_succ_eq_append_getElem hlt,List.map_append];rfl
   generalize t.cols[j]=c at *;(refine g ?_;intros);refine W.ownCell 11 0 1 28 2 rfl rfl rfl rfl rfl ?_;refine W.loopG (fun n st=>∃ (i:Nat) (X:List Cell),i≤R.length∧X=(R.take i).map (fun k=>c.cells.getD k ⟨false,[]⟩)∧n=R.length-i∧st=⟨[(1,.sl (natRows R) false),(4,.bp 4 0),(8,.bp 8 0),(44,.sl (colRows t.cols) false),(45,.int .i64 (colRows t.cols).length),(46,.int .i64 (j:Nat)),(10,.bp 10 0),(11,.bp 11 0),(53,.sl (natRows R) false),(54,.int .i64 (natRows R).length),(55,.int .i64 (i:Nat))],[(4,[.rows 3 [[.int .i64 0,.str [],.nils]] none]),(8,[.rows 3 [[.int .i64 t.id,.str t.name,.osl 27 0 0 (colRows C).length (colRows C).length]] none]),(27,[.rows 2 (colRows C) (some [])]),(10,[.rows 2 [c.row] none]),(11,[.rows 2 [[.str c.name,.osl 28 0 0 (cellRows X).length (cellRows X).length]] none]),(28,[.rows 2 (cellRows X) (some [])])],[4,8,27,10,11,28]⟩)
    R.length _ ⟨0,[],Nat.zero_le _,rfl,rfl,rfl⟩ gX ?_
   rintro n st ⟨i,X,hi,hX,rfl,rfl⟩;have hxl:=cellRows_len X;have hXl:X.length=i:=by rw [hX,List.length_map,List.length_take];omega
   (refine g ?_;intros);refine boolRes_split (fun hb=>?_) (fun hb=>?_)<;>conv=>whnf
   ·have hil:i<R.length:=by omega
    have hkg:=natRows_get hil;have hkr:=hR _ (List.getElem_mem hil);have hxk:(R.take (i+1)).map (fun k=>c.cells.getD k ⟨false,[]⟩)=X++[c.cells.getD R[i] ⟨false,[]⟩]:=by rw [hX,List.take_succ_eq_append_getElem hil,List.map_append];rfl
    generalize R[i]=x at *;have hxc:x<c.cells.length:=by omega
    have hxg:=cellRows_get hxc;rw [show c.cells.getD x ⟨false,[]⟩=c.cells[x] by simp [List.getD_eq_getElem?_getD,hxc]] at hxk;generalize c.cells[x]=y at *;(refine g ?_;intros);refine ⟨⟨rowsSz_cons rfl rowsSz_nil,rfl⟩,fitsN (n:=(cellRows X).length+1) (b:=24) (by omega) (by omega),.inl ⟨rfl,rfl,?_⟩⟩;(conv=>whnf);(refine g ?_;intros);refine ⟨_,_,?_,⟨i+1,X++[y],by omega,hxk.symm,rfl,rfl⟩,?_⟩
    ·omega
    ·rw [cellRows_snoc,List.length_append];exact gX
   ·have hie:i=R.length:=by omega
    rw [hie,List.take_length] at hX;refine W.leG (mp:=[(4,4),(8,8),(27,27),(11,11)]) (bo:=[28]) (st':=⟨[(1,.sl (natRows R) false),(4,.bp 4 0),(8,.bp 8 0),(44,.sl (colRows t.cols) false),(45,.int .i64 (colRows t.cols).length),(46,.int .i64 (j:Nat)),(11,.bp 11 0),(56,.bool false)],[(4,[.rows 3 [[.int .i64 0,.str [],.nils]] none]),(8,[.rows 3 [[.int .i64 t.id,.str t.name,.osl 27 0 0 (colRows C).length (colRows C).length]] none]),(27,[.rows 2 (colRows C) (some [])]),(11,[.rows 2 [(selC R c).row] none])],[4,8,27,11]⟩)
     (LeG.mq (.ci 4 (.ci 8 (.ci 27 (.cons 11 (b1:=.rows 2 [[.str c.name,.sl (cellRows X) false]] none) rfl rfl (.rows _ _ _ (by repeat' (first | exact trivial | exact ⟨Lent.refl _,rfl⟩ | exact ⟨Lent.norm _,rfl⟩ | exact ⟨Lent.whole rfl rfl (by first | rfl | exact List.length_append.symm | exact hlenR | simp) rfl (by first | exact .inl rfl | exact .inr rfl),rfl⟩ | apply And.intro))) (by rw [hX];rfl) .nil))))) ?_
    (refine g ?_;intros);refine ⟨⟨rowsSz_cons rfl rowsSz_nil,rfl⟩,fitsN (n:=(colRows C).length+1) (b:=40) (by omega) (by omega),.inl ⟨rfl,rfl,?_⟩⟩;(conv=>whnf);(refine g ?_;intros);refine ⟨_,_,?_,⟨j+1,C++[selC R c],by omega,htk.symm,rfl,rfl⟩,?_⟩
    ·omega
    ·rw [colRows_snoc,List.length_append];exact gX
  ·have hje:j=t.cols.length:=by omega
   rw [hje,List.take_length] at hC;subst hC;refine gGo ?_;intros;refine W.leG (mp:=[(4,4)]) (bo:=[27]) (st':=⟨[(4,.bp 4 0),(5,.int .i64 0)],[(4,[.rows 3 [(selT t R).row] none])],[4]⟩) (LeG.mq (.cons 4 (b1:=.rows 3 [(selT t R).row] none) rfl rfl (.rows _ _ _ (by repeat' (first | exact trivial | exact ⟨Lent.refl _,rfl⟩ | exact ⟨Lent.norm _,rfl⟩ | exact ⟨Lent.whole rfl rfl (by first | rfl | exact List.length_append.symm | exact hlenR | simp) rfl (by first | exact .inl rfl | exact .inr rfl),rfl⟩ | apply And.intro))) rfl .nil)) ?_;(refine gM ?_;conv=>whnf);exact ret0 rfl rfl rfl
end Go.Sx.Sp
