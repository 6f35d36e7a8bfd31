/- The inner function of find. -/
import Derived.Test.YthlokmbefpjmgaaGreatDoorExFive
import Derived.Test.YthlokmbefpjmgaaGreatDoorSxFive
import Derived.Test.YthlokmbefpjmgaaGreatDoorSxFour
set_option linter.unusedVariables false
set_option linter.unusedSimpArgs false
set_option maxHeartbeats 16000000
namespace Go.Sx.Sp
open Go Go.Sx Go.Proofs Go.Sort
attribute [local irreducible] aO famL
theorem CL(rows:List (List V))(hz:bA rows 2)(hin:∀U:Nat→Bool,(rows.all fun r=>r.all fun v=>v.sites.all U)=true)(hlen:rows.length≤4294967296):Spec Tryz.prog 100 [.sl rows false] [] (.osl 5 0 0 rows.length rows.length) [(5,.rows 2 rows none)]:=by
 have hfit:iI rows.length 16:=fitN hlen (by omega);refine gEn env Tryz.func100 fun Γ hN hK hML=>?_;cases rows with
 |nil =>
  refine gA ?_;(refine gE env hN (by kernel_rfl) ?_;conv=>whnf);refine W.nilSplit (full:=false) 0 (by rfl) ?_ ?_
  ·refine gGo ?_;refine W.ownNil 2 5 2 rfl rfl ?_;refine W.ref (Ref.unks 5 rfl) ?_;(refine gM ?_;conv=>whnf);exact retH rfl (.refl _) rfl rfl rfl ⟨rfl,rfl,trivial⟩
  ·refine gGl ?_;refine Or.inl ?_;(conv=>whnf);refine gGo ?_;refine⟨⟨trivial,rfl⟩,⟨by decide,by decide⟩,.inl ⟨rfl,rfl,?_⟩⟩;(conv=>whnf);refine gGo ?_;refine W.ref (Ref.unks 5 rfl) ?_;(refine gM ?_;conv=>whnf);exact retH rfl (.refl _) rfl rfl rfl ⟨rfl,rfl,trivial⟩
 |cons r rs =>
  refine gGl ?_;refine Or.inl ?_;(conv=>whnf);refine gGo ?_;refine⟨⟨hz,rfl⟩,by simpa using hfit,.inl ⟨rfl,rfl,?_⟩⟩;simp only[Nat.zero_add,List.nil_append];(conv=>whnf);refine gGo ?_;refine W.ref (Ref.unks 5 rfl) ?_;(refine gM ?_;conv=>whnf);exact retH rfl (.refl _) rfl rfl rfl ⟨rfl,hin _,trivial⟩
theorem pc(l:List Rf):bA (ap l) 2:=by
 unfold bA ap;intro r hr;obtain⟨c,_,rfl⟩:=List.mem_map.1 hr;rfl
theorem yB(l:List Rf):((ap l).all fun r=>f5 r)=true:=by
 unfold ap;rw[List.all_eq_true];intro r hr;obtain⟨c,_,rfl⟩:=List.mem_map.1 hr;rfl
theorem CM(l:List Rf)(U:Nat→Bool):((ap l).all fun r=>r.all fun v=>v.sites.all U)=true:=by
 unfold ap;rw[List.all_eq_true];intro r hr;obtain⟨c,_,rfl⟩:=List.mem_map.1 hr;rfl
theorem CN(l:List Rf)(ks:Option (List Nat)):dF (ap l) ks:=.inr (by
 unfold ap
 rw[List.all_eq_true]
 intro r hr
 obtain⟨c,_,rfl⟩:=List.mem_map.1 hr
 rfl)
theorem Am(l:List Rf)(ρ:Nat→Option Nat):(ap l).map (renL ρ)=ap l:=by
 unfold ap;rw[List.map_map];rfl
def fndV(p:Pth)(q:Nat)(cs:List Rf)(n:Nat):List V:=[.int .i64 p.start,.sl (ae p.steps) false,.nils,.osl q 0 0 (ap cs).length (ap cs).length,.int .i64 (n:Nat)]
theorem wi{H:Nat→List Blk}{bo:List Nat}{out:List Fnd}{p:Pth}{cs:List Rf}{q n:Nat}{ks ks2:Option (List Nat)}(hb:memB q bo=true)(hq:H q=[.rows 2 (ap cs) ks2]):BLent H bo (.rows 5 (av out++[fndV p q cs n]) ks) (.rows 5 (av (out++[⟨p,cs,(n:Int)⟩])) (some [])):=by
 refine .rowsF _ _ _ _ (by simp[av]) fun i r1 hi=>?_;rw[we] at hi;by_cases e:i<(av out).length
 ·rw[List.getElem?_append_left e] at hi;refine⟨r1,by rw[List.getElem?_append_left e];exact hi,rfl,fun j v1 hj=>⟨v1,hj,.refl _,?_⟩⟩;unfold av at hi;rw[List.getElem?_map,Option.map_eq_some_iff] at hi;obtain⟨x,_,rfl⟩:=hi
  match j,hj with
  | 0,hj=>cases hj;exact⟨rfl,rfl⟩
  | 1,hj=>cases hj;exact⟨rfl,rfl⟩
  | 2,hj=>cases hj;exact⟨rfl,rfl⟩
  | 3,hj=>cases hj;exact⟨rfl,rfl⟩
  | 4,hj=>cases hj;exact⟨rfl,rfl⟩
  |j+5,hj=>simp[Fnd.row] at hj
 ·have e2:i=(av out).length:=by
   have:=(List.getElem?_eq_some_iff.1 hi).1;rw[List.length_append,List.length_singleton] at this;omega
  subst e2;rw[List.getElem?_append_right (Nat.le_refl _),Nat.sub_self] at hi;cases hi;refine⟨fndV p q cs n,by rw[List.getElem?_append_right (Nat.le_refl _),Nat.sub_self];rfl,rfl,fun j v1 hj=>?_⟩
  match j,hj with
  | 0,hj=>cases hj;exact⟨_,rfl,.refl _,rfl,rfl⟩
  | 1,hj=>cases hj;exact⟨_,rfl,.refl _,rfl,rfl⟩
  | 2,hj=>cases hj;exact⟨_,rfl,.norm _,rfl,rfl⟩
  | 3,hj=>cases hj;exact⟨_,rfl,Lent.whole hb hq rfl rfl (CN _ _),rfl,rfl⟩
  | 4,hj=>cases hj;exact⟨_,rfl,.refl _,rfl,rfl⟩
  |j+5,hj=>simp[Fnd.row] at hj
def dh(CR:Rf→List Cell)(cs:List Rf):List Column:=cs.map fun r=>⟨[],CR r⟩
theorem pd(CR:Rf→List Cell)(cs:List Rf):(dh CR cs).length=cs.length:=by simp[dh]
def fiI(fit:List (List Nat))(p:Pth)(R:List Rf)(CR:Rf→List Cell)(n:Nat)(q:Table)(cs:List Rf)(out:List Fnd):List (Nat×Blk):=
 [(91,.rows 1 [[.sl (am fit) false]] none),(92,.rows 1 [[.osl 101 0 0 cs.length cs.length]] none),(93,.rows 5 [fa p R (R.map CR) n] none),(94,.rows 3 [[.int .i64 0,.str [],.osl 102 0 0 cs.length cs.length]] none),(95,.rows 1 [[.fn 97 [.bp 91 0,.bp 92 0,.bp 93 0,.bp 94 0,.bp 95 0,.bp 96 0,.bp 97 0]]] none),(96,.rows 3 [q.row] none),(97,.rows 1 [[.osl 103 0 0 out.length out.length]] none),(101,.rows 2 (ap cs) (some [])),(102,.rows 2 (ai (dh CR cs)) (some [])),(103,.rows 5 (av out) (some []))]
def fiO(fit:List (List Nat))(p:Pth)(R:List Rf)(CR:Rf→List Cell)(n:Nat)(q:Table)(cs:List Rf)(out:List Fnd):List (Nat×Blk):=
 [(91,.rows 1 [[.sl (am fit) false]] none),(92,.rows 1 [[.osl 104 0 0 cs.length cs.length]] none),(93,.rows 5 [fa p R (R.map CR) n] none),(94,.rows 3 [[.int .i64 0,.str [],.osl 105 0 0 cs.length cs.length]] none),(95,.rows 1 [[.fn 97 [.bp 91 0,.bp 92 0,.bp 93 0,.bp 94 0,.bp 95 0,.bp 96 0,.bp 97 0]]] none),(96,.rows 3 [q.row] none),(97,.rows 1 [[.osl 103 0 0 out.length out.length]] none),(101,.gone),(102,.gone),(103,.rows 5 (av out) (some [])),(104,.rows 2 (ap cs) (some [])),(105,.rows 2 (ai (dh CR cs)) (some []))]
theorem W.endR [Glob]{P:Program}{T:List (Nat×TI)}{Γ:Ctx}{Q:Exit→St→Prop}{st:St}{c:Code}(h:W P T Γ c (fun e s=>∃s',Q e s'∧Ref Γ s s') st):W P T Γ c Q st:=
 ⟨fun m a w hr=>wp_mono (h.out m a w hr) fun e a' w' ⟨s1,m1,⟨s',hq,hl⟩,h2⟩=>let⟨m2,h3⟩:=hl _ _ _ h2;⟨s',m2,hq,h3⟩⟩
theorem Ref.refl [Glob]{Γ:Ctx}{s:St}:Ref Γ s s:=fun m a w hr=>⟨m,hr⟩
def va(p:Pth)(CR:Rf→List Cell)(q:Table)(cs:List Rf):Bool:=u6 p cs&&dz ⟨0,[],dh CR cs⟩ q
theorem EE{fit:List (List Nat)}{p:Pth}{R:List Rf}{CR:Rf→List Cell}{n:Nat}{q:Table}{cs:List Rf}{out:List Fnd}(hi:cs.length=fit.length)(hr:eQ ⟨0,[],dh CR cs⟩)(hq:eQ q)(b1:ab ⟨0,[],dh CR cs⟩≤1000000)(b2:ab q≤1000000)(hcs:cs.length≤1000)(ho:out.length≤100000000000) :
  Spec Tryz.prog 97 [.int .i64 (cs.length:Nat),.bp 91 0,.bp 92 0,.bp 93 0,.bp 94 0,.bp 95 0,.bp 96 0,.bp 97 0] (fiI fit p R CR n q cs out) (.tup []) (fiO fit p R CR n q cs (if va p CR q cs=true then out++[⟨p,cs,(n:Int)⟩] else out)):=by
 have hfl:=cH fit;have hrl:=bq cs;have hsl:=pd CR cs;have hcl:=aB (dh CR cs);have hol:=bE out;have spB:=CK p R (R.map CR) n cs;have spC:=mV hr hq b1 b2;have sp:=CL (ap cs) (pc _) (CM _) (by omega);have hnf:=yB cs;unfold va;unfold fiI fiO;have hlenR:cs.length=(ap cs).length:=hrl.symm;have hlenS:cs.length=(ai (dh CR cs)).length:=by omega
 cases h1:u6 p cs with
 |false =>
  rw[h1] at spB;simp only[Bool.false_and,Bool.false_eq_true,if_false];refine gEn env Tryz.func97 fun Γ hN hK hML=>?_;refine W.endR ?_;refine W.ref (Ref.adoptB 92 101 104 (l:=cs.length) (n:=cs.length) rfl rfl hrl.symm (Nat.le_refl _) rfl rfl) ?_;refine W.ref (Ref.adoptR 94 102 105 2 (l:=cs.length) (n:=cs.length) rfl rfl rfl (by omega) (Nat.le_refl _) rfl rfl) ?_;rw[List.take_of_length_le (by omega),List.take_of_length_le (by omega)];refine gGo ?_;intros;(refine⟨_,_,_,cW [] [] [104] rfl rfl rfl (by kernel_rfl) (spB) (by repeat' (first|exact trivial|exact Lent.refl _|exact Lent.norm _|exact Lent.whole rfl rfl (by first|rfl|exact List.length_append.symm|exact hlenR|simp) rfl (by first|exact .inl rfl|exact .inr rfl)|apply And.intro)) rfl ⟨rfl,rfl,rfl,rfl,rfl,trivial,rfl,rfl⟩,?_⟩;conv=>whnf)
  refine gGo ?_;exact⟨_,re rfl (.refl _) rfl rfl rfl ⟨rfl,rfl,rfl,rfl,rfl,rfl,rfl,rfl,rfl,rfl,rfl,rfl,rfl,rfl,rfl,rfl,rfl,rfl,rfl,rfl,rfl,rfl,rfl,rfl,trivial⟩,Ref.refl⟩
 |true =>
  rw[h1] at spB;simp only[Bool.true_and];cases h2:dz ⟨0,[],dh CR cs⟩ q with
  |false =>
   rw[h2] at spC;simp only[Bool.false_eq_true,if_false];refine gEn env Tryz.func97 fun Γ hN hK hML=>?_;refine W.endR ?_;refine W.ref (Ref.adoptB 92 101 104 (l:=cs.length) (n:=cs.length) rfl rfl hrl.symm (Nat.le_refl _) rfl rfl) ?_;refine W.ref (Ref.adoptR 94 102 105 2 (l:=cs.length) (n:=cs.length) rfl rfl rfl (by omega) (Nat.le_refl _) rfl rfl) ?_;rw[List.take_of_length_le (by omega),List.take_of_length_le (by omega)];refine gGo ?_;intros;(refine⟨_,_,_,cW [] [] [104] rfl rfl rfl (by kernel_rfl) (spB) (by repeat' (first|exact trivial|exact Lent.refl _|exact Lent.norm _|exact Lent.whole rfl rfl (by first|rfl|exact List.length_append.symm|exact hlenR|simp) rfl (by first|exact .inl rfl|exact .inr rfl)|apply And.intro)) rfl ⟨rfl,rfl,rfl,rfl,rfl,trivial,rfl,rfl⟩,?_⟩;conv=>whnf)
   refine gGo ?_;(refine⟨_,_,_,cW [] [] [105] rfl rfl rfl (by kernel_rfl) (spC) (by refine⟨Lent.row ?_,.refl _,trivial⟩;repeat' (first|exact trivial|exact⟨Lent.refl _,rfl⟩|exact⟨Lent.whole rfl rfl hlenS rfl (.inl rfl),rfl⟩|apply And.intro)) rfl ⟨rfl,rfl,rfl,rfl,rfl,by repeat' (first|exact trivial|rfl|apply And.intro),rfl,rfl⟩,?_⟩;conv=>whnf)
   refine gGo ?_;exact⟨_,re rfl (.refl _) rfl rfl rfl ⟨rfl,rfl,rfl,rfl,rfl,rfl,rfl,rfl,rfl,rfl,rfl,rfl,rfl,rfl,rfl,rfl,rfl,rfl,rfl,rfl,rfl,rfl,rfl,rfl,trivial⟩,Ref.refl⟩
  |true =>
   rw[h2] at spC;simp only[if_true];refine gEn env Tryz.func97 fun Γ hN hK hML=>?_;refine W.endR ?_;refine W.ref (Ref.adoptB 92 101 104 (l:=cs.length) (n:=cs.length) rfl rfl hrl.symm (Nat.le_refl _) rfl rfl) ?_;refine W.ref (Ref.adoptR 94 102 105 2 (l:=cs.length) (n:=cs.length) rfl rfl rfl (by omega) (Nat.le_refl _) rfl rfl) ?_;rw[List.take_of_length_le (by omega),List.take_of_length_le (by omega)];refine gGo ?_;intros;(refine⟨_,_,_,cW [] [] [104] rfl rfl rfl (by kernel_rfl) (spB) (by repeat' (first|exact trivial|exact Lent.refl _|exact Lent.norm _|exact Lent.whole rfl rfl (by first|rfl|exact List.length_append.symm|exact hlenR|simp) rfl (by first|exact .inl rfl|exact .inr rfl)|apply And.intro)) rfl ⟨rfl,rfl,rfl,rfl,rfl,trivial,rfl,rfl⟩,?_⟩;conv=>whnf)
   refine gGo ?_;(refine⟨_,_,_,cW [] [] [105] rfl rfl rfl (by kernel_rfl) (spC) (by refine⟨Lent.row ?_,.refl _,trivial⟩;repeat' (first|exact trivial|exact⟨Lent.refl _,rfl⟩|exact⟨Lent.whole rfl rfl hlenS rfl (.inl rfl),rfl⟩|apply And.intro)) rfl ⟨rfl,rfl,rfl,rfl,rfl,by repeat' (first|exact trivial|rfl|apply And.intro),rfl,rfl⟩,?_⟩;conv=>whnf)
   refine gGo ?_;refine gCA [] [(5,150)] [104] sp ?_ (hargs:=by repeat' (first|exact trivial|exact Lent.whole rfl rfl hlenR rfl (.inl rfl)|apply And.intro)) (ok:=⟨rfl,rfl,rfl,rfl,rfl,trivial,rfl,(by show(false ||(true&&((ap cs).all fun r=>f5 r)&&true))=true;rw[hnf];rfl)⟩);(conv=>whnf);rw[Am,gq];(conv=>whnf);refine gGl ?_;refine Or.inl ?_;(conv=>whnf);refine gGo ?_;refine⟨⟨rfl,hol.symm⟩,bc (n:=out.length+1) (b:=88) (by omega) (by omega),.inl ⟨rfl,rfl,?_⟩⟩;(conv=>whnf);refine gGo ?_;refine⟨⟨[],[(91,[.rows 1 [[.sl (am fit) false]] none]),(92,[.rows 1 [[.osl 104 0 0 (cs).length (cs).length]] none]),(93,[.rows 5 [fa p R (R.map CR) n] none]),(94,[.rows 3 [[.int .i64 0,.str [],.osl 105 0 0 (cs).length (cs).length]] none]),(95,[.rows 1 [[.fn 97 [.bp 91 0,.bp 92 0,.bp 93 0,.bp 94 0,.bp 95 0,.bp 96 0,.bp 97 0]]] none]),(96,[.rows 3 [q.row] none]),(97,[.rows 1 [[.osl 103 0 0 ((out++[(⟨p,cs,(n:Int)⟩:Fnd)])).length ((out++[(⟨p,cs,(n:Int)⟩:Fnd)])).length]] none]),(101,[.gone]),(102,[.gone]),(103,[.rows 5 (av ((out++[(⟨p,cs,(n:Int)⟩:Fnd)]))) (some [])]),(104,[.rows 2 (ap (cs)) (some [])]),(105,[.rows 2 (ai (dh CR (cs))) (some [])])],[91,92,93,94,95,96,97,101,102,103,104,105]⟩,re rfl (.refl _) rfl rfl rfl ⟨rfl,rfl,rfl,rfl,rfl,rfl,rfl,rfl,rfl,rfl,rfl,rfl,rfl,rfl,rfl,rfl,rfl,rfl,rfl,rfl,rfl,rfl,rfl,rfl,trivial⟩,Ref.le (mp:=[(91,91),(92,92),(93,93),(94,94),(95,95),(96,96),(97,97),(101,101),(102,102),(103,103),(104,104),(105,105)]) (bo:=[150])
    (LeG.mk' rfl rfl rfl trivial (.ci 91 (.cons 92 rfl rfl (.refl _) (rfl) (.ci 93 (.cons 94 rfl rfl (.refl _) (rfl) (.ci 95 (.ci 96 (.cons 97 rfl rfl (.refl _) (congrArg (fun n=>([Blk.rows 1 [[.osl 103 0 0 n n]] none]:List Blk)) (show(out++[(⟨p,cs,(n:Int)⟩:Fnd)]).length=out.length+1 from List.length_append)) (.ci 101 (.ci 102 (.cons 103 (b1:=.rows 5 (av (out++[⟨p,cs,(n:Int)⟩])) (some [])) rfl rfl (wi rfl rfl) rfl (.cons 104 rfl rfl (.refl _) (rfl) (.cons 105 rfl rfl (.refl _) (rfl) .nil)))))))))))) rfl rfl (by rw[hK];rfl))⟩
def rAt(R:List Rf)(c:Nat):Rf:=R.getD c ⟨0,0⟩
def toR(R:List Rf)(fs:List (List Nat)):List (List Rf):=fs.map fun f=>f.map (rAt R)
def visC:List (List Rf)→List Rf→List Rf
 | [],cs=>cs
 |f::fs,cs=>f.foldl (fun _ r=>visC fs (cs++[r])) cs
def visG(p:Pth)(CR:Rf→List Cell)(q:Table)(n:Nat)(fs:List (List Rf))(cs:List Rf)(out:List Fnd):List Fnd:=visF (va p CR q) (fun c=>⟨p,c,(n:Int)⟩) fs cs out
theorem yC:∀(fs:List (List Rf)) (cs:List Rf),∃tl,visC fs cs=cs++tl∧tl.length≤fs.length
 | [],cs=>⟨[],by simp[visC],by simp⟩
 |f::fs,cs=>by
  unfold visC;have:∀(l:List Rf) (c0:List Rf),(∃tl,c0=cs++tl∧tl.length≤fs.length+1)→∃tl,l.foldl (fun _ r=>visC fs (cs++[r])) c0=cs++tl∧tl.length≤fs.length+1:=by
   intro l
   induction l with
   |nil=>intro c0 h;exact h
   |cons r l ih =>
    intro c0 h;rw[List.foldl_cons];refine ih _ ?_;obtain⟨tl,h1,h2⟩:=yC fs (cs++[r]);exact⟨r::tl,by rw[h1,List.append_assoc];rfl,by simpa using h2⟩
  exact this f cs ⟨[],by simp,by simp⟩
theorem EF(p:Pth)(CR:Rf→List Cell)(q:Table)(n:Nat)(fs:List (List Rf))(cs:List Rf)(out:List Fnd):(visG p CR q n fs cs out).length≤out.length+(cQ fs).length:=by
 unfold visG;rw[wg,List.length_append,List.length_map];have:=List.length_filter_le (fun c=>va p CR q (cs++c)) (cQ fs);omega
theorem lm(f:List Rf)(fs:List (List Rf)):(cQ (f::fs)).length=f.length*(cQ fs).length:=by
 show(f.flatMap fun x=>(cQ fs).map (x::·)).length=_
 induction f with
 |nil=>simp
 |cons x f ih=>rw[List.flatMap_cons,List.length_append,ih,List.length_map,List.length_cons,Nat.succ_mul];omega
theorem CO(p:Pth)(CR:Rf→List Cell)(q:Table)(n:Nat)(f:List Rf)(fs:List (List Rf))(cs:List Rf)(out:List Fnd):(visG p CR q n (f::fs) cs out,visC (f::fs) cs)=f.foldl (fun(o:List Fnd×List Rf) r=>(visG p CR q n fs (cs++[r]) o.1,visC fs (cs++[r]))) (out,cs):=by
 have:∀(c0:List Rf) (l:List Rf) (o:List Fnd) (c1:List Rf),(l.foldl (fun o r=>visF (va p CR q) (fun c=>(⟨p,c,(n:Int)⟩:Fnd)) fs (c0++[r]) o) o,l.foldl (fun _ r=>visC fs (c0++[r])) c1)=l.foldl (fun(o:List Fnd×List Rf) r=>(visF (va p CR q) (fun c=>(⟨p,c,(n:Int)⟩:Fnd)) fs (c0++[r]) o.1,visC fs (c0++[r]))) (o,c1):=by
  intro c0 l
  induction l with
  |nil=>intro o c1;rfl
  |cons r l ih=>intro o c1;rw[List.foldl_cons,List.foldl_cons,List.foldl_cons];exact ih _ _
 exact this cs f out cs
theorem An{f:List Nat}{j:Nat}(h:j<f.length):(af f)[j]?=some [.int .i64 (f[j]:Int)]:=by simp[af,h]
theorem Ao(CR:Rf→List Cell)(cs:List Rf)(r:Rf):dh CR (cs++[r])=dh CR cs++[⟨[],CR r⟩]:=by simp[dh]
theorem yD{fit:List (List Nat)}{p:Pth}{R:List Rf}{CR:Rf→List Cell}{n:Nat}{q:Table}(hq:eQ q)(b2:ab q≤1000000)
  (hR:∀cs:List Rf,(∀r∈cs,r∈R)→eQ ⟨0,[],dh CR cs⟩∧ab ⟨0,[],dh CR cs⟩≤1000000) (hfl:fit.length≤1000) (hRl:R.length≤1000000) (hfi:∀f∈fit,f.length≤1000000∧∀c∈f,c<R.length) :
  ∀(fs:List (List Nat)) (cs:List Rf) (out:List Fnd),fit.drop cs.length=fs→cs.length+fs.length=fit.length→(∀r∈cs,r∈R)→out.length+(cQ (toR R fs)).length≤100000000000 →
  Spec Tryz.prog 97 [.int .i64 (cs.length:Nat),.bp 91 0,.bp 92 0,.bp 93 0,.bp 94 0,.bp 95 0,.bp 96 0,.bp 97 0] (fiI fit p R CR n q cs out) (.tup []) (fiO fit p R CR n q (visC (toR R fs) cs) (visG p CR q n (toR R fs) cs out)):=by
 intro fs
 induction fs with
 |nil =>
  intro cs out hd hlen hcs ho;obtain⟨h1,h2⟩:=hR cs hcs;exact EE (by simpa using hlen) h1 hq h2 b2 (by simp at hlen;omega) (by simp[toR,cQ] at ho;omega)
 |cons f fs ih =>
  intro cs out hd hlen hcs ho;rw[List.length_cons] at hlen;have hlt:cs.length<fit.length:=by omega
  rw[List.drop_eq_getElem_cons hlt] at hd;obtain⟨hd1,hd2⟩:=List.cons.inj hd;have hfm:f∈fit:=hd1 ▸ List.getElem_mem hlt;obtain⟨hf1,hf2⟩:=hfi f hfm;have hget:=k8 hlt;rw[hd1] at hget;obtain⟨P,hP⟩:∃P:Nat→List Fnd×List Rf,P=fun j=>((f.map (rAt R)).take j).foldl (fun(o:List Fnd×List Rf) r=>(visG p CR q n (toR R fs) (cs++[r]) o.1,visC (toR R fs) (cs++[r]))) (out,cs):=⟨_,rfl⟩
  have hP0:P 0=(out,cs):=by rw[hP];rfl
  have hPS:∀(j:Nat) (hj:j<f.length),P (j+1)=(visG p CR q n (toR R fs) (cs++[rAt R f[j]]) (P j).1,visC (toR R fs) (cs++[rAt R f[j]])):=fun j hj=>by
   rw[hP];simp only[List.take_succ_eq_append_getElem (show j<(f.map (rAt R)).length by simpa using hj),List.foldl_append,List.foldl_cons,List.foldl_nil,List.getElem_map]
  have hPe:(visG p CR q n (toR R (f::fs)) cs out,visC (toR R (f::fs)) cs)=P f.length:=by
   show(visG p CR q n (f.map (rAt R)::toR R fs) cs out,visC (f.map (rAt R)::toR R fs) cs)=_;rw[CO,hP];simp only[←List.length_map (rAt R),List.take_length]
  have hPl:∀j,j≤f.length→(P j).1.length+(f.length-j)*(cQ (toR R fs)).length≤100000000000∧∃tl,(P j).2=cs++tl∧tl.length≤fs.length+1:=fun j=>by
   induction j with
   |zero =>
    intro _;rw[hP0];refine⟨?_,[],by simp,by simp⟩;have h3:(cQ (toR R (f::fs))).length=f.length*(cQ (toR R fs)).length:=by
     show(cQ (f.map (rAt R)::toR R fs)).length=_;rw[lm,List.length_map]
    rw[h3] at ho;simpa using ho
   |succ j ihj =>
    intro hj;obtain⟨h1,_⟩:=ihj (by omega);rw[hPS j (by omega)];refine⟨?_,?_⟩
    ·have h2:=EF p CR q n (toR R fs) (cs++[rAt R f[j]]) (P j).1;rw[show f.length-j=(f.length-(j+1))+1 by omega,Nat.succ_mul] at h1;simp only;omega
    ·obtain⟨tl,h2,h3⟩:=yC (toR R fs) (cs++[rAt R f[j]]);refine⟨rAt R f[j]::tl,by simp only;rw[h2,List.append_assoc];rfl,?_⟩;have:(toR R fs).length=fs.length:=by simp[toR]
     simp only[List.length_cons];omega
  have hPe1:=congrArg Prod.fst hPe;have hPe2:=congrArg Prod.snd hPe;simp only at hPe1 hPe2;rw[hPe1,hPe2];clear hP hPe hPe1 hPe2;have hrr:=cH fit;have hfln:(af f).length=f.length:=by simp[af]
  have hrl:=bq cs;have hsl:=pd CR cs;have hcl:=aB (dh CR cs);unfold fiI fiO;refine gEn env Tryz.func97 fun Γ hN hK hML=>?_;refine W.ref (Ref.adoptB 92 101 104 (l:=cs.length) (n:=cs.length) rfl rfl (by omega) (Nat.le_refl _) rfl rfl) ?_;refine W.ref (Ref.adoptR 94 102 105 2 (l:=cs.length) (n:=cs.length) rfl rfl rfl (by omega) (Nat.le_refl _) rfl rfl) ?_;rw[List.take_of_length_le (by omega),List.take_of_length_le (by omega)];refine gGo ?_
  ·(refine g ?_;intros);refine W.loopR (fun m st=>∃j:Nat,j≤f.length∧m=f.length-j∧st=⟨[(0,.int .i64 (cs.length:Nat)),(1,.bp 91 0),(2,.bp 92 0),(3,.bp 93 0),(4,.bp 94 0),(5,.bp 95 0),(6,.bp 96 0),(7,.bp 97 0),(18,.sl (af f) false),(19,.int .i64 (af f).length),(20,.int .i64 (j:Nat))],[(91,[.rows 1 [[.sl (am fit) false]] none]),(92,[.rows 1 [[.osl 104 0 0 ((P j).2).length ((P j).2).length]] none]),(93,[.rows 5 [fa p R (R.map CR) n] none]),(94,[.rows 3 [[.int .i64 0,.str [],.osl 105 0 0 ((P j).2).length ((P j).2).length]] none]),(95,[.rows 1 [[.fn 97 [.bp 91 0,.bp 92 0,.bp 93 0,.bp 94 0,.bp 95 0,.bp 96 0,.bp 97 0]]] none]),(96,[.rows 3 [q.row] none]),(97,[.rows 1 [[.osl 103 0 0 ((P j).1).length ((P j).1).length]] none]),(101,[.gone]),(102,[.gone]),(103,[.rows 5 (av ((P j).1)) (some [])]),(104,[.rows 2 (ap ((P j).2)) (some [])]),(105,[.rows 2 (ai (dh CR ((P j).2))) (some [])])],[91,92,93,94,95,96,97,101,102,103,104,105]⟩)
    f.length _ ⟨0,by omega,by omega,rfl⟩ (Ref.le (mp:=[(91,91),(92,92),(93,93),(94,94),(95,95),(96,96),(97,97),(101,101),(102,102),(103,103),(104,104),(105,105)]) (bo:=[]) (gs:=[]) (LeG.mq (by rw[hP0];exact(.ci 91 (.cons 92 rfl rfl (.refl _) (rfl) (.ci 93 (.cons 94 rfl rfl (.refl _) (rfl) (.ci 95 (.ci 96 (.cons 97 rfl rfl (.refl _) (rfl) (.ci 101 (.ci 102 (.ci 103 (.cons 104 rfl rfl (.refl _) (rfl) (.cons 105 rfl rfl (.refl _) (rfl) .nil))))))))))))))) ?_
   rintro m st ⟨j,hj,rfl,rfl⟩;obtain⟨hPb,tl,hPt,hPtl⟩:=hPl j hj;have hol:=bE (P j).1;refine gT (fun hb=>?_) fun hb=>?_
   ·have hjl:j<f.length:=by omega
    have hg:=An hjl;have hPs:=hPS j hjl;have hcm:=hf2 f[j] (List.getElem_mem hjl);have hra:rAt R f[j]=R[f[j]]:=by simp[rAt,List.getD_eq_getElem?_getD,hcm]
    have hrm:R[f[j]]∈R:=List.getElem_mem hcm;have hRg:=cE hcm;have hCg:=sU (l:=R.map CR) (show f[j]<(R.map CR).length by simpa using hcm);rw[List.getElem_map] at hCg;rw[hra] at hPs;have hRn:=bq R;have hCn:=kp (R.map CR);rw[List.length_map] at hCn;generalize R[f[j]]=r at *;generalize f[j]=c at *;have hcl2:(ap (P j).2).length=(P j).2.length:=bq _;have hcl3:(ai (dh CR (P j).2)).length=(P j).2.length:=by rw[aB,pd]
    have hctk:(ap (P j).2).take cs.length=ap cs:=by rw[hPt];simp[ap]
    have hctk2:(ai (dh CR (P j).2)).take cs.length=ai (dh CR cs):=by rw[hPt];simp[ai,dh]
    have hple:cs.length≤(P j).2.length:=by rw[hPt,List.length_append];omega
    have hsp:=ih (cs++[r]) (P j).1 (by rw[List.length_append,List.length_singleton];exact hd2) (by rw[List.length_append,List.length_singleton];omega) (fun x hx=>by rcases List.mem_append.1 hx with h|h;exact hcs x h;rw[List.mem_singleton.1 h];exact hrm) (by
     rw[show f.length-j=(f.length-(j+1))+1 by omega,Nat.succ_mul] at hPb
     omega)
    have hlc:(cs++[r]).length=cs.length+1:=List.length_append;obtain⟨hPb2,tl2,hPt2,hPtl2⟩:=hPl (j+1) (by omega);have hvl:(visC (toR R fs) (cs++[r])).length=(P (j+1)).2.length:=by rw[hPs]
    unfold fiI fiO at hsp;rw[hlc] at hsp;generalize hP1:P (j+1)=P1 at *;refine g ?_;refine⟨⟨ao rfl au,hcl2.symm⟩,bc (n:=cs.length+1) (b:=16) (by omega) (by omega),.inr ⟨rfl,?_⟩⟩;(conv=>whnf);refine g ?_;refine⟨⟨ao rfl au,hcl3.symm⟩,bc (n:=cs.length+1) (b:=40) (by omega) (by omega),.inr ⟨rfl,?_⟩⟩;(conv=>whnf);refine gGs ?_;refine W.leG (mp:=[(91,91),(92,92),(93,93),(94,94),(95,95),(96,96),(97,97),(101,101),(102,102),(103,103),(33,106),(45,107)]) (bo:=[]) (st':=⟨[(0,.int .i64 (cs.length:Nat)),(1,.bp 91 0),(2,.bp 92 0),(3,.bp 93 0),(4,.bp 94 0),(5,.bp 95 0),(6,.bp 96 0),(7,.bp 97 0),(18,.sl (af f) false),(19,.int .i64 (af f).length),(20,.int .i64 (j:Nat))],[(91,[.rows 1 [[.sl (am fit) false]] none]),(92,[.rows 1 [[.osl 106 0 0 (cs.length+1) (cs.length+1)]] none]),(93,[.rows 5 [fa p R (R.map CR) n] none]),(94,[.rows 3 [[.int .i64 0,.str [],.osl 107 0 0 (cs.length+1) (cs.length+1)]] none]),(95,[.rows 1 [[.fn 97 [.bp 91 0,.bp 92 0,.bp 93 0,.bp 94 0,.bp 95 0,.bp 96 0,.bp 97 0]]] none]),(96,[.rows 3 [q.row] none]),(97,[.rows 1 [[.osl 103 0 0 (P j).1.length (P j).1.length]] none]),(101,[.gone]),(102,[.gone]),(103,[.rows 5 (av (P j).1) (some [])]),(106,[.rows 2 (ap (cs++[r])) (some [])]),(107,[.rows 2 (ai (dh CR (cs++[r]))) (some [])])],[91,92,93,94,95,96,97,101,102,103,106,107]⟩)
     (LeG.mq (.ci 91 (.ci 92 (.ci 93 (.ci 94 (.ci 95 (.ci 96 (.ci 97 (.ci 101 (.ci 102 (.ci 103 (.cons 33 rfl rfl (.refl _) (congrArg (fun x=>([Blk.rows 2 x (some [])]:List Blk)) (show ap (cs++[r])=(List.drop 0 (ap (P j).2)).take cs.length++[r.row] by rw[List.drop_zero,hctk,fX])) (.cons 45 rfl rfl (.refl _) (congrArg (fun x=>([Blk.rows 2 x (some [])]:List Blk)) (show ai (dh CR (cs++[r]))=(List.drop 0 (ai (dh CR (P j).2))).take cs.length++[Column.row ⟨[],CR r⟩] by rw[List.drop_zero,hctk2,Ao,dD])) .nil))))))))))))) ?_
    (refine gE env hN (by kernel_rfl) ?_;conv=>whnf);refine gGs ?_;(refine gCA [(91,91),(92,92),(93,93),(94,94),(95,95),(96,96),(97,97),(101,106),(102,107),(103,103)] [(104,108),(105,109)] [] (hsp) ?_;conv=>whnf);refine gGo ?_;refine⟨_,_,?_,⟨j+1,by omega,rfl,rfl⟩,Ref.le (mp:=[(91,91),(92,92),(93,93),(94,94),(95,95),(96,96),(97,97),(101,101),(102,102),(103,103),(108,104),(109,105)]) (bo:=[]) (gs:=[]) (LeG.mq (by rw[hP1,hPs];exact(.ci 91 (.ci 92 (.ci 93 (.ci 94 (.ci 95 (.ci 96 (.ci 97 (.ci 101 (.ci 102 (.ci 103 (.ci 108 (.ci 109 .nil))))))))))))))⟩;omega
   ·have hje:j=f.length:=by omega
    rw[hje];refine gGo ?_;(refine gM ?_;conv=>whnf);exact retH rfl (.refl _) rfl rfl rfl ⟨rfl,rfl,rfl,rfl,rfl,rfl,rfl,rfl,rfl,rfl,rfl,rfl,rfl,rfl,rfl,rfl,rfl,rfl,rfl,rfl,rfl,rfl,rfl,rfl,trivial⟩
def fixR(P:Rf→Bool)(R:List Rf)(k:Nat):List Nat:=(List.range k).filter fun i=>P (rAt R i)
theorem CP(P:Rf→Bool)(R:List Rf)(k:Nat):fixR P R (k+1)=if P (rAt R k)=true then fixR P R k++[k] else fixR P R k:=by
 unfold fixR;rw[List.range_succ,List.filter_append,List.filter_cons,List.filter_nil];split<;>simp
theorem yE(P:Rf→Bool)(R:List Rf)(k:Nat):(fixR P R k).length≤k:=by
 have:=List.length_filter_le (fun i=>P (rAt R i)) (List.range k);rw[List.length_range] at this;exact this
theorem EG{P:Rf→Bool}{R:List Rf}{k c:Nat}(h:c∈fixR P R k):c<k:=by
 unfold fixR at h;exact List.mem_range.1 (List.mem_filter.1 h).1
theorem CQ(R:List Rf):(List.range R.length).map (rAt R)=R:=by
 refine List.ext_getElem (by simp) fun i h1 h2=>?_;rw[List.getElem_map,List.getElem_range];simp[rAt,List.getD_eq_getElem?_getD,h2]
theorem EH(P:Rf→Bool)(R:List Rf):(fixR P R R.length).map (rAt R)=R.filter P:=by
 unfold fixR;rw[show(fun i=>P (rAt R i))=P ∘ rAt R from rfl,←List.filter_map,CQ]
def dH(R:List Rf)(CR:Rf→List Cell)(cols:List Column):List (List Nat):=cols.map fun c=>fixR (fun r=>dT (CR r) c) R R.length
theorem yF(R:List Rf)(CR:Rf→List Cell)(cols:List Column):toR R (dH R CR cols)=cols.map fun c=>R.filter fun r=>dT (CR r) c:=by
 unfold toR dH;rw[List.map_map];exact List.map_congr_left fun c _=>EH _ _
theorem Ap{p:Pth}{R:List Rf}{CR:Rf→List Cell}{n:Nat}{q:Table}(hq:eQ q)(b2:ab q≤1000000)(hqc:q.cols.length≤1000)
  (hR:∀cs:List Rf,(∀r∈cs,r∈R)→eQ ⟨0,[],dh CR cs⟩∧ab ⟨0,[],dh CR cs⟩≤1000000) (hRl:R.length≤1000000) (out:List Fnd) (hout:out.length+(cQ (toR R (dH R CR q.cols))).length≤100000000000) :
  Spec Tryz.prog 42 [.agg (fa p R (R.map CR) n),.agg q.row,.osl 0 0 0 out.length out.length] [(0,.rows 5 (av out) (some []))] (.osl 0 0 0 (visG p CR q n (toR R (dH R CR q.cols)) [] out).length (visG p CR q n (toR R (dH R CR q.cols)) [] out).length) [(0,.rows 5 (av (visG p CR q n (toR R (dH R CR q.cols)) [] out)) (some []))]:=by
 have hfl:(dH R CR q.cols).length=q.cols.length:=by simp[dH]
 have spV:=yD (fit:=dH R CR q.cols) (p:=p) (R:=R) (CR:=CR) (n:=n) hq b2 hR (by omega) hRl (fun f hf=>by
  obtain⟨c,_,rfl⟩:=List.mem_map.1 hf
  exact⟨Nat.le_trans (yE _ _ _) hRl,fun x hx=>EG hx⟩) (dH R CR q.cols) [] out rfl (by simp) (by simp) hout
 unfold fiI fiO at spV;generalize visG p CR q n (toR R (dH R CR q.cols)) [] out=out2 at *;generalize visC (toR R (dH R CR q.cols)) []=cs2 at *;have hcl:=aB q.cols;have hRn:=kp (R.map CR);rw[List.length_map] at hRn;have hol:=bE out;refine gEn env Tryz.func42 fun Γ hN hK hML=>?_;refine gGo ?_;intros;refine W.ownCell 7 0 0 301 1 rfl rfl rfl rfl rfl ?_;refine W.loopR (fun m st=>∃(k:Nat) (es:List (Nat×V×V)) (ck:Nat),k≤q.cols.length∧m=q.cols.length-k∧st=⟨[(3,.bp 3 0),(4,.bp 4 0),(5,.bp 5 0),(7,.bp 7 0),(8,.omap 17 0),(19,.sl (ai q.cols) false),(20,.int .i64 (ai q.cols).length),(21,.int .i64 (k:Nat))],[(3,[.rows 5 [fa p R (R.map CR) n] none]),(4,[.rows 3 [q.row] none]),(5,[.rows 1 [[.osl 0 0 0 out.length out.length]] none]),(7,[.rows 1 [[.osl 301 0 0 k k]] none]),(17,[.map es ck (some [])]),(0,[.rows 5 (av out) (some [])]),(301,[.rows 1 (am (dH R CR (q.cols.take k))) (some [])])],[3,4,5,7,17,0,301]⟩)
  q.cols.length _ ⟨0,[],0,by omega,by omega,rfl⟩ gY ?_
 ·rintro m st ⟨k,es,ck,hk,rfl,rfl⟩;have hfk:(dH R CR (q.cols.take k)).length=k:=by simp[dH];omega
  have hfrl:=cH (dH R CR (q.cols.take k));refine gT (fun hb=>?_) fun hb=>?_
  ·have hlt:k<q.cols.length:=by omega
   have hcg:=aW hlt;have hfs:dH R CR (q.cols.take (k+1))=dH R CR (q.cols.take k)++[fixR (fun r=>dT (CR r) q.cols[k]) R R.length]:=by
    rw[List.take_succ_eq_append_getElem hlt];unfold dH;rw[List.map_append];rfl
   generalize q.cols[k]=c at *;(refine g ?_;intros);refine W.ownNil 11 302 1 rfl rfl ?_;refine W.loopR (fun m st=>∃(j:Nat) (es:List (Nat×V×V)) (ck a:Nat) (rows:List (List V)),j≤R.length∧a=(fixR (fun r=>dT (CR r) c) R j).length∧rows=af (fixR (fun r=>dT (CR r) c) R j)∧m=R.length-j∧st=⟨[(3,.bp 3 0),(4,.bp 4 0),(5,.bp 5 0),(7,.bp 7 0),(8,.omap 17 0),(19,.sl (ai q.cols) false),(20,.int .i64 (ai q.cols).length),(21,.int .i64 (k:Nat)),(10,.bp 10 0),(11,.osl 302 0 0 a a),(26,.sl (ea (R.map CR)) false),(27,.int .i64 (ea (R.map CR)).length),(28,.int .i64 (j:Nat))],[(3,[.rows 5 [fa p R (R.map CR) n] none]),(4,[.rows 3 [q.row] none]),(5,[.rows 1 [[.osl 0 0 0 out.length out.length]] none]),(7,[.rows 1 [[.osl 301 0 0 k k]] none]),(17,[.map es ck (some [])]),(0,[.rows 5 (av out) (some [])]),(301,[.rows 1 (am (dH R CR (q.cols.take k))) (some [])]),(10,[.rows 2 [c.row] none]),(302,[.rows 1 rows (some [])])],[3,4,5,7,17,0,301,10,302]⟩)
    R.length _ ⟨0,es,ck,0,[],by omega,rfl,rfl,by omega,rfl⟩ gY ?_
   ·rintro m st ⟨j,es,ck,a,rows,hj,ha,hrw,rfl,rfl⟩;have hfl1:=yE (fun r=>dT (CR r) c) R j;have hfs1:=CP (fun r=>dT (CR r) c) R j;have hrl:rows.length=a:=by rw[hrw,ha];simp[af]
    refine gT (fun hb=>?_) fun hb=>?_
    ·have hjl:j<R.length:=by omega
     have hra:rAt R j=R[j]:=by simp[rAt,List.getD_eq_getElem?_getD,hjl]
     have hCg:=sU (l:=R.map CR) (show j<(R.map CR).length by simpa using hjl);rw[List.getElem_map] at hCg;rw[hra] at hfs1;generalize R[j]=r at *;have sp:=yy (CR r) c es ck;refine g ?_;cases hcb:dT (CR r) c with
     |true =>
      rw[hcb] at sp;rw[if_pos hcb] at hfs1;refine gGo ?_;(refine gCA [(0,17)] [] [] (sp) ?_;conv=>whnf);refine gGo ?_;refine⟨⟨ao rfl au,hrl.symm⟩,bc (n:=a+1) (b:=8) (by omega) (by omega),.inl ⟨rfl,rfl,?_⟩⟩;(conv=>whnf);refine gGo ?_;exact gW ⟨j+1,_,_,a+1,rows++[[.int .i64 (j:Nat)]],by omega,by rw[hfs1,ha,List.length_append];rfl,by rw[hfs1,hrw];simp[af],rfl,rfl⟩
     |false =>
      rw[hcb] at sp;rw[if_neg (by rw[hcb];decide)] at hfs1;refine gGo ?_;(refine gCA [(0,17)] [] [] (sp) ?_;conv=>whnf);refine gGo ?_;exact gW ⟨j+1,_,_,a,rows,by omega,by rw[hfs1];exact ha,by rw[hfs1];exact hrw,rfl,rfl⟩
    ·have hje:j=R.length:=by omega
     subst hje;refine gGl ?_;refine Or.inl ?_;(conv=>whnf);refine gGo ?_;refine⟨⟨rfl,(hfrl.trans hfk).symm⟩,bc (n:=k+1) (b:=24) (by omega) (by omega),.inl ⟨rfl,rfl,?_⟩⟩;(conv=>whnf);refine gGo ?_;rw[←aQ] at ha;subst ha;subst hrw;refine⟨_,_,?_,⟨k+1,es,ck,by omega,rfl,rfl⟩,Ref.le (mp:=[(3,3),(4,4),(5,5),(7,7),(17,17),(0,0),(301,301)]) (bo:=[302]) (gs:=[]) (LeG.mq (by rw[hfs];exact(.ci 3 (.ci 4 (.ci 5 (.ci 7 (.ci 17 (.ci 0 (.cons 301 (b1:=.rows 1 (am (dH R CR (q.cols.take k)++[fixR (fun r=>dT (CR r) c) R R.length])) (some [])) rfl rfl (nR rfl rfl (.inl rfl)) rfl .nil)))))))))⟩;omega
  ·have hke:k=q.cols.length:=by omega
   subst hke;rw[List.take_length];refine gGs ?_;refine gA ?_;refine gD rfl ?_;refine gG ?_;(conv=>whnf);refine gA ?_;(refine gE env hN (by kernel_rfl) ?_;conv=>whnf);refine gGs ?_;refine gA ?_;(refine gE env hN (by kernel_rfl) ?_;conv=>whnf);refine gGs ?_;refine gA ?_;(refine gE env hN (by kernel_rfl) ?_;conv=>whnf);refine gGs ?_;refine gA ?_;(refine gE env hN (by kernel_rfl) ?_;conv=>whnf);refine gGs ?_;refine W.ownCell 14 0 0 401 2 rfl rfl rfl rfl rfl ?_;refine W.ownCell 15 0 2 402 2 rfl rfl rfl rfl rfl ?_;refine W.leG (mp:=[(3,3),(4,4),(5,5),(7,7),(14,14),(15,15),(16,16),(0,0),(401,401),(402,402)]) (bo:=[301]) (st':=⟨[(5,.bp 5 0),(16,.bp 16 0)],[(3,[.rows 5 [fa p R (R.map CR) n] none]),(4,[.rows 3 [q.row] none]),(5,[.rows 1 [[.osl 0 0 0 out.length out.length]] none]),(7,[.rows 1 [[.sl (am (dH R CR q.cols)) false]] none]),(14,[.rows 1 [[.osl 401 0 0 0 0]] none]),(15,[.rows 3 [[.int .i64 0,.str [],.osl 402 0 0 0 0]] none]),(16,[.rows 1 [[.fn 97 [.bp 7 0,.bp 14 0,.bp 3 0,.bp 15 0,.bp 16 0,.bp 4 0,.bp 5 0]]] none]),(0,[.rows 5 (av out) (some [])]),(401,[.rows 2 (ap []) (some [])]),(402,[.rows 2 (ai (dh CR [])) (some [])])],[3,4,5,7,14,15,16,0,401,402]⟩)
    (LeG.mq (.ci 3 (.ci 4 (.ci 5 (.cons 7 (b1:=.rows 1 [[.sl (am (dH R CR q.cols)) false]] none) rfl rfl (.rows _ _ _ ⟨⟨⟨Lent.whole rfl rfl (by rw[cH,hfl]) rfl (.inl rfl),rfl⟩,trivial⟩,trivial⟩) rfl (.ci 14 (.ci 15 (.ci 16 (.ci 0 (.ci 401 (.ci 402 .nil))))))))))) ?_
   refine gA ?_;(refine gE env hN (by kernel_rfl) ?_;conv=>whnf);refine gGs ?_;(refine gCA [(91,7),(92,14),(93,3),(94,15),(95,16),(96,4),(97,5),(101,401),(102,402),(103,0)] [(104,501),(105,502)] [] (spV) ?_;conv=>whnf);refine gGo ?_;(refine gM ?_;conv=>whnf);exact retH rfl (.refl _) rfl rfl rfl ⟨rfl,rfl,trivial⟩
end Go.Sx.Sp
