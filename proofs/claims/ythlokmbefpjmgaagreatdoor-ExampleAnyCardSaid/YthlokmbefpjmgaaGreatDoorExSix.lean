/- The inner function of find. -/
import Derived.Test.YthlokmbefpjmgaaGreatDoorExFive
import Derived.Test.YthlokmbefpjmgaaGreatDoorSxFive
import Derived.Test.YthlokmbefpjmgaaGreatDoorSxFour
set_option linter.unusedVariables false
set_option linter.unusedSimpArgs false
namespace Go.Sx.Sp
open Go Go.Sx Go.Proofs Go.Sort
attribute [local irreducible] GoodW famL
set_option maxHeartbeats 1000000 in
theorem cloneRefs (rows:List (List V)) (hz:rowsSz rows 2) (hin:∀ U:Nat→Bool,(rows.all fun r=>r.all fun v=>v.sites.all U)=true) (hlen:rows.length≤4294967296):Spec Tryz.prog 100 [.sl rows false] [] (.osl 5 0 0 rows.length rows.length) [(5,.rows 2 rows none)]:=by
 have hfit:fitsV rows.length 16:=fitN hlen (by omega);refine gEn env Tryz.func100 fun Γ hN hK hML=>?_;cases rows with
 | nil =>
  refine gA ?_;(refine gE env hN (by kernel_rfl) ?_;conv=>whnf);refine W.nilSplit (full:=false) 0 (by rfl) ?_ ?_
  ·refine gGo ?_;refine W.ownNil 2 5 2 rfl rfl ?_;refine W.ref (Ref.unks 5 rfl) ?_;(refine gM ?_;conv=>whnf);exact retH rfl (.refl _) rfl rfl rfl ⟨rfl,rfl,trivial⟩
  ·refine gGl ?_;refine Or.inl ?_;(conv=>whnf);refine gGo ?_;refine ⟨⟨trivial,rfl⟩,⟨by decide,by decide⟩,.inl ⟨rfl,rfl,?_⟩⟩;(conv=>whnf);refine gGo ?_;refine W.ref (Ref.unks 5 rfl) ?_;(refine gM ?_;conv=>whnf);exact retH rfl (.refl _) rfl rfl rfl ⟨rfl,rfl,trivial⟩
 | cons r rs =>
  refine gGl ?_;refine Or.inl ?_;(conv=>whnf);refine gGo ?_;refine ⟨⟨hz,rfl⟩,by simpa using hfit,.inl ⟨rfl,rfl,?_⟩⟩;simp only [Nat.zero_add,List.nil_append];(conv=>whnf);refine gGo ?_;refine W.ref (Ref.unks 5 rfl) ?_;(refine gM ?_;conv=>whnf);exact retH rfl (.refl _) rfl rfl rfl ⟨rfl,hin _,trivial⟩
theorem rfRows_sz (l:List Rf):rowsSz (rfRows l) 2:=by
 unfold rowsSz rfRows;intro r hr;obtain ⟨c,_,rfl⟩:=List.mem_map.1 hr;rfl
theorem rfRows_flat (l:List Rf):((rfRows l).all fun r=>flatL r)=true:=by
 unfold rfRows;rw [List.all_eq_true];intro r hr;obtain ⟨c,_,rfl⟩:=List.mem_map.1 hr;rfl
theorem rfRows_in (l:List Rf) (U:Nat→Bool):((rfRows l).all fun r=>r.all fun v=>v.sites.all U)=true:=by
 unfold rfRows;rw [List.all_eq_true];intro r hr;obtain ⟨c,_,rfl⟩:=List.mem_map.1 hr;rfl
theorem rfRows_pr (l:List Rf) (ks:Option (List Nat)):pureRows (rfRows l) ks:=.inr (by
 unfold rfRows
 rw [List.all_eq_true]
 intro r hr
 obtain ⟨c,_,rfl⟩:=List.mem_map.1 hr
 rfl)
theorem rfRows_ren (l:List Rf) (ρ:Nat→Option Nat):(rfRows l).map (renL ρ)=rfRows l:=by
 unfold rfRows;rw [List.map_map];rfl
def fndV (p:Pth) (q:Nat) (cs:List Rf) (n:Nat):List V:=[.int .i64 p.start,.sl (stpRows p.steps) false,.nils,.osl q 0 0 (rfRows cs).length (rfRows cs).length,.int .i64 (n:Nat)]
theorem fndRows_lent {H:Nat→List Blk}{bo:List Nat}{out:List Fnd}{p:Pth}{cs:List Rf}{q n:Nat}{ks ks2:Option (List Nat)}(hb:memB q bo=true) (hq:H q=[.rows 2 (rfRows cs) ks2]):BLent H bo (.rows 5 (fndRows out++[fndV p q cs n]) ks) (.rows 5 (fndRows (out++[⟨p,cs,(n:Int)⟩])) (some [])):=by
 refine .rowsF _ _ _ _ (by simp [fndRows]) fun i r1 hi=>?_;rw [fndRows_snoc] at hi;by_cases e:i<(fndRows out).length
 ·rw [List.getElem?_append_left e] at hi;refine ⟨r1,by rw [List.getElem?_append_left e];exact hi,rfl,fun j v1 hj=>⟨v1,hj,.refl _,?_⟩⟩;unfold fndRows at hi;rw [List.getElem?_map,Option.map_eq_some_iff] at hi;obtain ⟨x,_,rfl⟩:=hi
  match j,hj with
  | 0,hj=>cases hj;exact ⟨rfl,rfl⟩
  | 1,hj=>cases hj;exact ⟨rfl,rfl⟩
  | 2,hj=>cases hj;exact ⟨rfl,rfl⟩
  | 3,hj=>cases hj;exact ⟨rfl,rfl⟩
  | 4,hj=>cases hj;exact ⟨rfl,rfl⟩
  | j+5,hj=>simp [Fnd.row] at hj
 ·have e2:i=(fndRows out).length:=by
   have:=(List.getElem?_eq_some_iff.1 hi).1;rw [List.length_append,List.length_singleton] at this;omega
  subst e2;rw [List.getElem?_append_right (Nat.le_refl _),Nat.sub_self] at hi;cases hi;refine ⟨fndV p q cs n,by rw [List.getElem?_append_right (Nat.le_refl _),Nat.sub_self];rfl,rfl,fun j v1 hj=>?_⟩
  match j,hj with
  | 0,hj=>cases hj;exact ⟨_,rfl,.refl _,rfl,rfl⟩
  | 1,hj=>cases hj;exact ⟨_,rfl,.refl _,rfl,rfl⟩
  | 2,hj=>cases hj;exact ⟨_,rfl,.norm _,rfl,rfl⟩
  | 3,hj=>cases hj;exact ⟨_,rfl,Lent.whole hb hq rfl rfl (rfRows_pr _ _),rfl,rfl⟩
  | 4,hj=>cases hj;exact ⟨_,rfl,.refl _,rfl,rfl⟩
  | j+5,hj=>simp [Fnd.row] at hj
def shCol (CR:Rf→List Cell) (cs:List Rf):List Column:=cs.map fun r=>⟨[],CR r⟩
theorem shCol_len (CR:Rf→List Cell) (cs:List Rf):(shCol CR cs).length=cs.length:=by simp [shCol]
def fiI (fit:List (List Nat)) (p:Pth) (R:List Rf) (CR:Rf→List Cell) (n:Nat) (q:Table) (cs:List Rf) (out:List Fnd):List (Nat×Blk):=
 [(91,.rows 1 [[.sl (rowRows fit) false]] none),(92,.rows 1 [[.osl 101 0 0 cs.length cs.length]] none),(93,.rows 5 [jnRow p R (R.map CR) n] none),(94,.rows 3 [[.int .i64 0,.str [],.osl 102 0 0 cs.length cs.length]] none),(95,.rows 1 [[.fn 97 [.bp 91 0,.bp 92 0,.bp 93 0,.bp 94 0,.bp 95 0,.bp 96 0,.bp 97 0]]] none),(96,.rows 3 [q.row] none),(97,.rows 1 [[.osl 103 0 0 out.length out.length]] none),(101,.rows 2 (rfRows cs) (some [])),(102,.rows 2 (colRows (shCol CR cs)) (some [])),(103,.rows 5 (fndRows out) (some []))]
def fiO (fit:List (List Nat)) (p:Pth) (R:List Rf) (CR:Rf→List Cell) (n:Nat) (q:Table) (cs:List Rf) (out:List Fnd):List (Nat×Blk):=
 [(91,.rows 1 [[.sl (rowRows fit) false]] none),(92,.rows 1 [[.osl 104 0 0 cs.length cs.length]] none),(93,.rows 5 [jnRow p R (R.map CR) n] none),(94,.rows 3 [[.int .i64 0,.str [],.osl 105 0 0 cs.length cs.length]] none),(95,.rows 1 [[.fn 97 [.bp 91 0,.bp 92 0,.bp 93 0,.bp 94 0,.bp 95 0,.bp 96 0,.bp 97 0]]] none),(96,.rows 3 [q.row] none),(97,.rows 1 [[.osl 103 0 0 out.length out.length]] none),(101,.gone),(102,.gone),(103,.rows 5 (fndRows out) (some [])),(104,.rows 2 (rfRows cs) (some [])),(105,.rows 2 (colRows (shCol CR cs)) (some []))]
theorem W.endR [Glob] {P:Program}{T:List (Nat×TI)}{Γ:Ctx}{Q:Exit→St→Prop}{st:St}{c:Code}(h:W P T Γ c (fun e s=>∃ s',Q e s'∧Ref Γ s s') st):W P T Γ c Q st:=
 ⟨fun m a w hr=>wp_mono (h.out m a w hr) fun e a' w' ⟨s1,m1,⟨s',hq,hl⟩,h2⟩=>let ⟨m2,h3⟩:=hl _ _ _ h2;⟨s',m2,hq,h3⟩⟩
theorem Ref.refl [Glob] {Γ:Ctx}{s:St}:Ref Γ s s:=fun m a w hr=>⟨m,hr⟩
def leafB (p:Pth) (CR:Rf→List Cell) (q:Table) (cs:List Rf):Bool:=bothB p cs&&contB ⟨0,[],shCol CR cs⟩ q
set_option maxHeartbeats 16000000 in
theorem find_end {fit:List (List Nat)}{p:Pth}{R:List Rf}{CR:Rf→List Cell}{n:Nat}{q:Table}{cs:List Rf}{out:List Fnd}(hi:cs.length=fit.length) (hr:RectT ⟨0,[],shCol CR cs⟩) (hq:RectT q) (b1:rowsN ⟨0,[],shCol CR cs⟩≤1000000) (b2:rowsN q≤1000000) (hcs:cs.length≤1000) (ho:out.length≤100000000000) :
  Spec Tryz.prog 97 [.int .i64 (cs.length:Nat),.bp 91 0,.bp 92 0,.bp 93 0,.bp 94 0,.bp 95 0,.bp 96 0,.bp 97 0] (fiI fit p R CR n q cs out) (.tup []) (fiO fit p R CR n q cs (if leafB p CR q cs=true then out++[⟨p,cs,(n:Int)⟩] else out)):=by
 have hfl:=rowRows_len fit;have hrl:=rfRows_len cs;have hsl:=shCol_len CR cs;have hcl:=colRows_len (shCol CR cs);have hol:=fndRows_len out;have spB:=both_spec p R (R.map CR) n cs;have spC:=contains_rows_spec hr hq b1 b2;have sp:=cloneRefs (rfRows cs) (rfRows_sz _) (rfRows_in _) (by omega);have hnf:=rfRows_flat cs;unfold leafB;unfold fiI fiO;have hlenR:cs.length=(rfRows cs).length:=hrl.symm;have hlenS:cs.length=(colRows (shCol CR cs)).length:=by omega
 cases h1:bothB p cs with
 | false =>
  rw [h1] at spB;simp only [Bool.false_and,Bool.false_eq_true,if_false];refine gEn env Tryz.func97 fun Γ hN hK hML=>?_;refine W.endR ?_;refine W.ref (Ref.adoptB 92 101 104 (l:=cs.length) (n:=cs.length) rfl rfl hrl.symm (Nat.le_refl _) rfl rfl) ?_;refine W.ref (Ref.adoptR 94 102 105 2 (l:=cs.length) (n:=cs.length) rfl rfl rfl (by omega) (Nat.le_refl _) rfl rfl) ?_;rw [List.take_of_length_le (by omega),List.take_of_length_le (by omega)];refine gGo ?_;intros;(refine ⟨_,_,_,callG [] [] [104] rfl rfl rfl (by kernel_rfl) (spB) (by repeat' (first | exact trivial | exact Lent.refl _ | exact Lent.norm _ | exact Lent.whole rfl rfl (by first | rfl | exact List.length_append.symm | exact hlenR | simp) rfl (by first | exact .inl rfl | exact .inr rfl) | apply And.intro)) rfl ⟨rfl,rfl,rfl,rfl,rfl,trivial,rfl,rfl⟩,?_⟩;conv=>whnf);refine gGo ?_;exact ⟨_,retHn rfl (.refl _) rfl rfl rfl ⟨rfl,rfl,rfl,rfl,rfl,rfl,rfl,rfl,rfl,rfl,rfl,rfl,rfl,rfl,rfl,rfl,rfl,rfl,rfl,rfl,rfl,rfl,rfl,rfl,trivial⟩,Ref.refl⟩
 | true =>
  rw [h1] at spB;simp only [Bool.true_and];cases h2:contB ⟨0,[],shCol CR cs⟩ q with
  | false =>
   rw [h2] at spC;simp only [Bool.false_eq_true,if_false];refine gEn env Tryz.func97 fun Γ hN hK hML=>?_;refine W.endR ?_;refine W.ref (Ref.adoptB 92 101 104 (l:=cs.length) (n:=cs.length) rfl rfl hrl.symm (Nat.le_refl _) rfl rfl) ?_;refine W.ref (Ref.adoptR 94 102 105 2 (l:=cs.length) (n:=cs.length) rfl rfl rfl (by omega) (Nat.le_refl _) rfl rfl) ?_;rw [List.take_of_length_le (by omega),List.take_of_length_le (by omega)];refine gGo ?_;intros;(refine ⟨_,_,_,callG [] [] [104] rfl rfl rfl (by kernel_rfl) (spB) (by repeat' (first | exact trivial | exact Lent.refl _ | exact Lent.norm _ | exact Lent.whole rfl rfl (by first | rfl | exact List.length_append.symm | exact hlenR | simp) rfl (by first | exact .inl rfl | exact .inr rfl) | apply And.intro)) rfl ⟨rfl,rfl,rfl,rfl,rfl,trivial,rfl,rfl⟩,?_⟩;conv=>whnf);refine gGo ?_;(refine ⟨_,_,_,callG [] [] [105] rfl rfl rfl (by kernel_rfl) (spC) (by refine ⟨Lent.row ?_,.refl _,trivial⟩;repeat' (first | exact trivial | exact ⟨Lent.refl _,rfl⟩ | exact ⟨Lent.whole rfl rfl hlenS rfl (.inl rfl),rfl⟩ | apply And.intro)) rfl ⟨rfl,rfl,rfl,rfl,rfl,by repeat' (first | exact trivial | rfl | apply And.intro),rfl,rfl⟩,?_⟩;conv=>whnf);refine gGo ?_;exact ⟨_,retHn rfl (.refl _) rfl rfl rfl ⟨rfl,rfl,rfl,rfl,rfl,rfl,rfl,rfl,rfl,rfl,rfl,rfl,rfl,rfl,rfl,rfl,rfl,rfl,rfl,rfl,rfl,rfl,rfl,rfl,trivial⟩,Ref.refl⟩
  | true =>
   rw [h2] at spC;simp only [if_true];refine gEn env Tryz.func97 fun Γ hN hK hML=>?_;refine W.endR ?_;refine W.ref (Ref.adoptB 92 101 104 (l:=cs.length) (n:=cs.length) rfl rfl hrl.symm (Nat.le_refl _) rfl rfl) ?_;refine W.ref (Ref.adoptR 94 102 105 2 (l:=cs.length) (n:=cs.length) rfl rfl rfl (by omega) (Nat.le_refl _) rfl rfl) ?_;rw [List.take_of_length_le (by omega),List.take_of_length_le (by omega)];refine gGo ?_;intros;(refine ⟨_,_,_,callG [] [] [104] rfl rfl rfl (by kernel_rfl) (spB) (by repeat' (first | exact trivial | exact Lent.refl _ | exact Lent.norm _ | exact Lent.whole rfl rfl (by first | rfl | exact List.length_append.symm | exact hlenR | simp) rfl (by first | exact .inl rfl | exact .inr rfl) | apply And.intro)) rfl ⟨rfl,rfl,rfl,rfl,rfl,trivial,rfl,rfl⟩,?_⟩;conv=>whnf);refine gGo ?_;(refine ⟨_,_,_,callG [] [] [105] rfl rfl rfl (by kernel_rfl) (spC) (by refine ⟨Lent.row ?_,.refl _,trivial⟩;repeat' (first | exact trivial | exact ⟨Lent.refl _,rfl⟩ | exact ⟨Lent.whole rfl rfl hlenS rfl (.inl rfl),rfl⟩ | apply And.intro)) rfl ⟨rfl,rfl,rfl,rfl,rfl,by repeat' (first | exact trivial | rfl | apply And.intro),rfl,rfl⟩,?_⟩;conv=>whnf);refine gGo ?_;refine gCA [] [(5,150)] [104] sp ?_ (hargs:=by repeat' (first | exact trivial | exact Lent.whole rfl rfl hlenR rfl (.inl rfl) | apply And.intro)) (ok:=⟨rfl,rfl,rfl,rfl,rfl,trivial,rfl,(by show (false||(true&&((rfRows cs).all fun r=>flatL r)&&true))=true;rw [hnf];rfl)⟩);(conv=>whnf);rw [rfRows_ren,forceR_eq];(conv=>whnf);refine gGl ?_;refine Or.inl ?_;(conv=>whnf);refine gGo ?_;refine ⟨⟨rfl,hol.symm⟩,fitsN (n:=out.length+1) (b:=88) (by omega) (by omega),.inl ⟨rfl,rfl,?_⟩⟩;(conv=>whnf);refine gGo ?_;refine ⟨⟨[],[(91,[.rows 1 [[.sl (rowRows fit) false]] none]),(92,[.rows 1 [[.osl 104 0 0 (cs).length (cs).length]] none]),(93,[.rows 5 [jnRow p R (R.map CR) n] none]),(94,[.rows 3 [[.int .i64 0,.str [],.osl 105 0 0 (cs).length (cs).length]] none]),(95,[.rows 1 [[.fn 97 [.bp 91 0,.bp 92 0,.bp 93 0,.bp 94 0,.bp 95 0,.bp 96 0,.bp 97 0]]] none]),(96,[.rows 3 [q.row] none]),(97,[.rows 1 [[.osl 103 0 0 ((out++[(⟨p,cs,(n:Int)⟩:Fnd)])).length ((out++[(⟨p,cs,(n:Int)⟩:Fnd)])).length]] none]),(101,[.gone]),(102,[.gone]),(103,[.rows 5 (fndRows ((out++[(⟨p,cs,(n:Int)⟩:Fnd)]))) (some [])]),(104,[.rows 2 (rfRows (cs)) (some [])]),(105,[.rows 2 (colRows (shCol CR (cs))) (some [])])],[91,92,93,94,95,96,97,101,102,103,104,105]⟩,retHn rfl (.refl _) rfl rfl rfl ⟨rfl,rfl,rfl,rfl,rfl,rfl,rfl,rfl,rfl,rfl,rfl,rfl,rfl,rfl,rfl,rfl,rfl,rfl,rfl,rfl,rfl,rfl,rfl,rfl,trivial⟩,Ref.le (mp:=[(91,91),(92,92),(93,93),(94,94),(95,95),(96,96),(97,97),(101,101),(102,102),(103,103),(104,104),(105,105)]) (bo:=[150])
    (LeG.mk' rfl rfl rfl trivial (.ci 91 (.cons 92 rfl rfl (.refl _) (rfl) (.ci 93 (.cons 94 rfl rfl (.refl _) (rfl) (.ci 95 (.ci 96 (.cons 97 rfl rfl (.refl _) (congrArg (fun n=>([Blk.rows 1 [[.osl 103 0 0 n n]] none]:List Blk)) (show (out++[(⟨p,cs,(n:Int)⟩:Fnd)]).length=out.length+1 from List.length_append)) (.ci 101 (.ci 102 (.cons 103 (b1:=.rows 5 (fndRows (out++[⟨p,cs,(n:Int)⟩])) (some [])) rfl rfl (fndRows_lent rfl rfl) rfl (.cons 104 rfl rfl (.refl _) (rfl) (.cons 105 rfl rfl (.refl _) (rfl) .nil)))))))))))) rfl rfl (by rw [hK];rfl))⟩
def rAt (R:List Rf) (c:Nat):Rf:=R.getD c ⟨0,0⟩
def toR (R:List Rf) (fs:List (List Nat)):List (List Rf):=fs.map fun f=>f.map (rAt R)
def visC:List (List Rf)→List Rf→List Rf
 | [],cs=>cs
 | f::fs,cs=>f.foldl (fun _ r=>visC fs (cs++[r])) cs
def visG (p:Pth) (CR:Rf→List Cell) (q:Table) (n:Nat) (fs:List (List Rf)) (cs:List Rf) (out:List Fnd):List Fnd:=visF (leafB p CR q) (fun c=>⟨p,c,(n:Int)⟩) fs cs out
theorem visC_pre:∀ (fs:List (List Rf)) (cs:List Rf),∃ tl,visC fs cs=cs++tl∧tl.length≤fs.length
 | [],cs=>⟨[],by simp [visC],by simp⟩
 | f::fs,cs=>by
  unfold visC;have:∀ (l:List Rf) (c0:List Rf),(∃ tl,c0=cs++tl∧tl.length≤fs.length+1)→∃ tl,l.foldl (fun _ r=>visC fs (cs++[r])) c0=cs++tl∧tl.length≤fs.length+1:=by
   intro l
   induction l with
   | nil=>intro c0 h;exact h
   | cons r l ih =>
    intro c0 h;rw [List.foldl_cons];refine ih _ ?_;obtain ⟨tl,h1,h2⟩:=visC_pre fs (cs++[r]);exact ⟨r::tl,by rw [h1,List.append_assoc];rfl,by simpa using h2⟩
  exact this f cs ⟨[],by simp,by simp⟩
theorem visG_len (p:Pth) (CR:Rf→List Cell) (q:Table) (n:Nat) (fs:List (List Rf)) (cs:List Rf) (out:List Fnd):(visG p CR q n fs cs out).length≤out.length+(prodL fs).length:=by
 unfold visG;rw [visF_eq,List.length_append,List.length_map];have:=List.length_filter_le (fun c=>leafB p CR q (cs++c)) (prodL fs);omega
theorem prodL_cons_len (f:List Rf) (fs:List (List Rf)):(prodL (f::fs)).length=f.length*(prodL fs).length:=by
 show (f.flatMap fun x=>(prodL fs).map (x::·)).length=_
 induction f with
 | nil=>simp
 | cons x f ih=>rw [List.flatMap_cons,List.length_append,ih,List.length_map,List.length_cons,Nat.succ_mul];omega
theorem visG_cons (p:Pth) (CR:Rf→List Cell) (q:Table) (n:Nat) (f:List Rf) (fs:List (List Rf)) (cs:List Rf) (out:List Fnd):(visG p CR q n (f::fs) cs out,visC (f::fs) cs)=f.foldl (fun (o:List Fnd×List Rf) r=>(visG p CR q n fs (cs++[r]) o.1,visC fs (cs++[r]))) (out,cs):=by
 have:∀ (c0:List Rf) (l:List Rf) (o:List Fnd) (c1:List Rf),(l.foldl (fun o r=>visF (leafB p CR q) (fun c=>(⟨p,c,(n:Int)⟩:Fnd)) fs (c0++[r]) o) o,l.foldl (fun _ r=>visC fs (c0++[r])) c1)=l.foldl (fun (o:List Fnd×List Rf) r=>(visF (leafB p CR q) (fun c=>(⟨p,c,(n:Int)⟩:Fnd)) fs (c0++[r]) o.1,visC fs (c0++[r]))) (o,c1):=by
  intro c0 l
  induction l with
  | nil=>intro o c1;rfl
  | cons r l ih=>intro o c1;rw [List.foldl_cons,List.foldl_cons,List.foldl_cons];exact ih _ _
 exact this cs f out cs
theorem natRows_at {f:List Nat}{j:Nat}(h:j<f.length):(natRows f)[j]?=some [.int .i64 (f[j]:Int)]:=by simp [natRows,h]
theorem shCol_snoc (CR:Rf→List Cell) (cs:List Rf) (r:Rf):shCol CR (cs++[r])=shCol CR cs++[⟨[],CR r⟩]:=by simp [shCol]
set_option maxHeartbeats 16000000 in
theorem fvisit_spec {fit:List (List Nat)}{p:Pth}{R:List Rf}{CR:Rf→List Cell}{n:Nat}{q:Table}(hq:RectT q) (b2:rowsN q≤1000000)
  (hR:∀ cs:List Rf,(∀ r∈cs,r∈R)→RectT ⟨0,[],shCol CR cs⟩∧rowsN ⟨0,[],shCol CR cs⟩≤1000000) (hfl:fit.length≤1000) (hRl:R.length≤1000000) (hfi:∀ f∈fit,f.length≤1000000∧∀ c∈f,c<R.length) :
  ∀ (fs:List (List Nat)) (cs:List Rf) (out:List Fnd),fit.drop cs.length=fs→cs.length+fs.length=fit.length→(∀ r∈cs,r∈R)→out.length+(prodL (toR R fs)).length≤100000000000 →
  Spec Tryz.prog 97 [.int .i64 (cs.length:Nat),.bp 91 0,.bp 92 0,.bp 93 0,.bp 94 0,.bp 95 0,.bp 96 0,.bp 97 0] (fiI fit p R CR n q cs out) (.tup []) (fiO fit p R CR n q (visC (toR R fs) cs) (visG p CR q n (toR R fs) cs out)):=by
 intro fs
 induction fs with
 | nil =>
  intro cs out hd hlen hcs ho;obtain ⟨h1,h2⟩:=hR cs hcs;exact find_end (by simpa using hlen) h1 hq h2 b2 (by simp at hlen;omega) (by simp [toR,prodL] at ho;omega)
 | cons f fs ih =>
  intro cs out hd hlen hcs ho;rw [List.length_cons] at hlen;have hlt:cs.length<fit.length:=by omega
  rw [List.drop_eq_getElem_cons hlt] at hd;obtain ⟨hd1,hd2⟩:=List.cons.inj hd;have hfm:f∈fit:=hd1 ▸ List.getElem_mem hlt;obtain ⟨hf1,hf2⟩:=hfi f hfm;have hget:=rowRows_get hlt;rw [hd1] at hget;obtain ⟨P,hP⟩:∃ P:Nat→List Fnd×List Rf,P=fun j=>((f.map (rAt R)).take j).foldl (fun (o:List Fnd×List Rf) r=>(visG p CR q n (toR R fs) (cs++[r]) o.1,visC (toR R fs) (cs++[r]))) (out,cs):=⟨_,rfl⟩
  have hP0:P 0=(out,cs):=by rw [hP];rfl
  have hPS:∀ (j:Nat) (hj:j<f.length),P (j+1)=(visG p CR q n (toR R fs) (cs++[rAt R f[j]]) (P j).1,visC (toR R fs) (cs++[rAt R f[j]])):=fun j hj=>by
   rw [hP];simp only [List.take_succ_eq_append_getElem (show j<(f.map (rAt R)).length by simpa using hj),List.foldl_append,List.foldl_cons,List.foldl_nil,List.getElem_map]
  have hPe:(visG p CR q n (toR R (f::fs)) cs out,visC (toR R (f::fs)) cs)=P f.length:=by
   show (visG p CR q n (f.map (rAt R)::toR R fs) cs out,visC (f.map (rAt R)::toR R fs) cs)=_;rw [visG_cons,hP];simp only [←List.length_map (rAt R),List.take_length]
  have hPl:∀ j,j≤f.length→(P j).1.length+(f.length-j)*(prodL (toR R fs)).length≤100000000000∧∃ tl,(P j).2=cs++tl∧tl.length≤fs.length+1:=fun j=>by
   induction j with
   | zero =>
    intro _;rw [hP0];refine ⟨?_,[],by simp,by simp⟩;have h3:(prodL (toR R (f::fs))).length=f.length*(prodL (toR R fs)).length:=by
     show (prodL (f.map (rAt R)::toR R fs)).length=_;rw [prodL_cons_len,List.length_map]
    rw [h3] at ho;simpa using ho
   | succ j ihj =>
    intro hj;obtain ⟨h1,_⟩:=ihj (by omega);rw [hPS j (by omega)];refine ⟨?_,?_⟩
    ·have h2:=visG_len p CR q n (toR R fs) (cs++[rAt R f[j]]) (P j).1;rw [show f.length-j=(f.length-(j+1))+1 by omega,Nat.succ_mul] at h1;simp only;omega
    ·obtain ⟨tl,h2,h3⟩:=visC_pre (toR R fs) (cs++[rAt R f[j]]);refine ⟨rAt R f[j]::tl,by simp only;rw [h2,List.append_assoc];rfl,?_⟩;have:(toR R fs).length=fs.length:=by simp [toR]
     simp only [List.length_cons];omega
  have hPe1:=congrArg Prod.fst hPe;have hPe2:=congrArg Prod.snd hPe;simp only at hPe1 hPe2;rw [hPe1,hPe2];clear hP hPe hPe1 hPe2;have hrr:=rowRows_len fit;have hfln:(natRows f).length=f.length:=by simp [natRows]
  have hrl:=rfRows_len cs;have hsl:=shCol_len CR cs;have hcl:=colRows_len (shCol CR cs);unfold fiI fiO;refine gEn env Tryz.func97 fun Γ hN hK hML=>?_;refine W.ref (Ref.adoptB 92 101 104 (l:=cs.length) (n:=cs.length) rfl rfl (by omega) (Nat.le_refl _) rfl rfl) ?_;refine W.ref (Ref.adoptR 94 102 105 2 (l:=cs.length) (n:=cs.length) rfl rfl rfl (by omega) (Nat.le_refl _) rfl rfl) ?_;rw [List.take_of_length_le (by omega),List.take_of_length_le (by omega)];refine gGo ?_
  ·(refine g ?_;intros);refine W.loopR (fun m st=>∃ j:Nat,j≤f.length∧m=f.length-j∧st=⟨[(0,.int .i64 (cs.length:Nat)),(1,.bp 91 0),(2,.bp 92 0),(3,.bp 93 0),(4,.bp 94 0),(5,.bp 95 0),(6,.bp 96 0),(7,.bp 97 0),(18,.sl (natRows f) false),(19,.int .i64 (natRows f).length),(20,.int .i64 (j:Nat))],[(91,[.rows 1 [[.sl (rowRows fit) false]] none]),(92,[.rows 1 [[.osl 104 0 0 ((P j).2).length ((P j).2).length]] none]),(93,[.rows 5 [jnRow p R (R.map CR) n] none]),(94,[.rows 3 [[.int .i64 0,.str [],.osl 105 0 0 ((P j).2).length ((P j).2).length]] none]),(95,[.rows 1 [[.fn 97 [.bp 91 0,.bp 92 0,.bp 93 0,.bp 94 0,.bp 95 0,.bp 96 0,.bp 97 0]]] none]),(96,[.rows 3 [q.row] none]),(97,[.rows 1 [[.osl 103 0 0 ((P j).1).length ((P j).1).length]] none]),(101,[.gone]),(102,[.gone]),(103,[.rows 5 (fndRows ((P j).1)) (some [])]),(104,[.rows 2 (rfRows ((P j).2)) (some [])]),(105,[.rows 2 (colRows (shCol CR ((P j).2))) (some [])])],[91,92,93,94,95,96,97,101,102,103,104,105]⟩)
    f.length _ ⟨0,by omega,by omega,rfl⟩ (Ref.le (mp:=[(91,91),(92,92),(93,93),(94,94),(95,95),(96,96),(97,97),(101,101),(102,102),(103,103),(104,104),(105,105)]) (bo:=[]) (gs:=[]) (LeG.mq (by rw [hP0];exact (.ci 91 (.cons 92 rfl rfl (.refl _) (rfl) (.ci 93 (.cons 94 rfl rfl (.refl _) (rfl) (.ci 95 (.ci 96 (.cons 97 rfl rfl (.refl _) (rfl) (.ci 101 (.ci 102 (.ci 103 (.cons 104 rfl rfl (.refl _) (rfl) (.cons 105 rfl rfl (.refl _) (rfl) .nil))))))))))))))) ?_
   rintro m st ⟨j,hj,rfl,rfl⟩;obtain ⟨hPb,tl,hPt,hPtl⟩:=hPl j hj;have hol:=fndRows_len (P j).1;refine gT (fun hb=>?_) fun hb=>?_
   ·have hjl:j<f.length:=by omega
    have hg:=natRows_at hjl;have hPs:=hPS j hjl;have hcm:=hf2 f[j] (List.getElem_mem hjl);have hra:rAt R f[j]=R[f[j]]:=by simp [rAt,List.getD_eq_getElem?_getD,hcm]
    have hrm:R[f[j]]∈R:=List.getElem_mem hcm;have hRg:=rfRows_get hcm;have hCg:=lnRows_get (l:=R.map CR) (show f[j]<(R.map CR).length by simpa using hcm);rw [List.getElem_map] at hCg;rw [hra] at hPs;have hRn:=rfRows_len R;have hCn:=lnRows_len (R.map CR);rw [List.length_map] at hCn;generalize R[f[j]]=r at *;generalize f[j]=c at *;have hcl2:(rfRows (P j).2).length=(P j).2.length:=rfRows_len _;have hcl3:(colRows (shCol CR (P j).2)).length=(P j).2.length:=by rw [colRows_len,shCol_len]
    have hctk:(rfRows (P j).2).take cs.length=rfRows cs:=by rw [hPt];simp [rfRows]
    have hctk2:(colRows (shCol CR (P j).2)).take cs.length=colRows (shCol CR cs):=by rw [hPt];simp [colRows,shCol]
    have hple:cs.length≤(P j).2.length:=by rw [hPt,List.length_append];omega
    have hsp:=ih (cs++[r]) (P j).1 (by rw [List.length_append,List.length_singleton];exact hd2) (by rw [List.length_append,List.length_singleton];omega) (fun x hx=>by rcases List.mem_append.1 hx with h | h;exact hcs x h;rw [List.mem_singleton.1 h];exact hrm) (by
     rw [show f.length-j=(f.length-(j+1))+1 by omega,Nat.succ_mul] at hPb
     omega)
    have hlc:(cs++[r]).length=cs.length+1:=List.length_append;obtain ⟨hPb2,tl2,hPt2,hPtl2⟩:=hPl (j+1) (by omega);have hvl:(visC (toR R fs) (cs++[r])).length=(P (j+1)).2.length:=by rw [hPs]
    unfold fiI fiO at hsp;rw [hlc] at hsp;generalize hP1:P (j+1)=P1 at *;refine g ?_;refine ⟨⟨rowsSz_cons rfl rowsSz_nil,hcl2.symm⟩,fitsN (n:=cs.length+1) (b:=16) (by omega) (by omega),.inr ⟨rfl,?_⟩⟩;(conv=>whnf);refine g ?_;refine ⟨⟨rowsSz_cons rfl rowsSz_nil,hcl3.symm⟩,fitsN (n:=cs.length+1) (b:=40) (by omega) (by omega),.inr ⟨rfl,?_⟩⟩;(conv=>whnf);refine gGs ?_;refine W.leG (mp:=[(91,91),(92,92),(93,93),(94,94),(95,95),(96,96),(97,97),(101,101),(102,102),(103,103),(33,106),(45,107)]) (bo:=[]) (st':=⟨[(0,.int .i64 (cs.length:Nat)),(1,.bp 91 0),(2,.bp 92 0),(3,.bp 93 0),(4,.bp 94 0),(5,.bp 95 0),(6,.bp 96 0),(7,.bp 97 0),(18,.sl (natRows f) false),(19,.int .i64 (natRows f).length),(20,.int .i64 (j:Nat))],[(91,[.rows 1 [[.sl (rowRows fit) false]] none]),(92,[.rows 1 [[.osl 106 0 0 (cs.length+1) (cs.length+1)]] none]),(93,[.rows 5 [jnRow p R (R.map CR) n] none]),(94,[.rows 3 [[.int .i64 0,.str [],.osl 107 0 0 (cs.length+1) (cs.length+1)]] none]),(95,[.rows 1 [[.fn 97 [.bp 91 0,.bp 92 0,.bp 93 0,.bp 94 0,.bp 95 0,.bp 96 0,.bp 97 0]]] none]),(96,[.rows 3 [q.row] none]),(97,[.rows 1 [[.osl 103 0 0 (P j).1.length (P j).1.length]] none]),(101,[.gone]),(102,[.gone]),(103,[.rows 5 (fndRows (P j).1) (some [])]),(106,[.rows 2 (rfRows (cs++[r])) (some [])]),(107,[.rows 2 (colRows (shCol CR (cs++[r]))) (some [])])],[91,92,93,94,95,96,97,101,102,103,106,107]⟩)
     (LeG.mq (.ci 91 (.ci 92 (.ci 93 (.ci 94 (.ci 95 (.ci 96 (.ci 97 (.ci 101 (.ci 102 (.ci 103 (.cons 33 rfl rfl (.refl _) (congrArg (fun x=>([Blk.rows 2 x (some [])]:List Blk)) (show rfRows (cs++[r])=(List.drop 0 (rfRows (P j).2)).take cs.length++[r.row] by rw [List.drop_zero,hctk,rfRows_snoc])) (.cons 45 rfl rfl (.refl _) (congrArg (fun x=>([Blk.rows 2 x (some [])]:List Blk)) (show colRows (shCol CR (cs++[r]))=(List.drop 0 (colRows (shCol CR (P j).2))).take cs.length++[Column.row ⟨[],CR r⟩] by rw [List.drop_zero,hctk2,shCol_snoc,colRows_snoc])) .nil))))))))))))) ?_
    (refine gE env hN (by kernel_rfl) ?_;conv=>whnf);refine gGs ?_;(refine gCA [(91,91),(92,92),(93,93),(94,94),(95,95),(96,96),(97,97),(101,106),(102,107),(103,103)] [(104,108),(105,109)] [] (hsp) ?_;conv=>whnf);refine gGo ?_;refine ⟨_,_,?_,⟨j+1,by omega,rfl,rfl⟩,Ref.le (mp:=[(91,91),(92,92),(93,93),(94,94),(95,95),(96,96),(97,97),(101,101),(102,102),(103,103),(108,104),(109,105)]) (bo:=[]) (gs:=[]) (LeG.mq (by rw [hP1,hPs];exact (.ci 91 (.ci 92 (.ci 93 (.ci 94 (.ci 95 (.ci 96 (.ci 97 (.ci 101 (.ci 102 (.ci 103 (.ci 108 (.ci 109 .nil))))))))))))))⟩;omega
   ·have hje:j=f.length:=by omega
    rw [hje];refine gGo ?_;(refine gM ?_;conv=>whnf);exact retH rfl (.refl _) rfl rfl rfl ⟨rfl,rfl,rfl,rfl,rfl,rfl,rfl,rfl,rfl,rfl,rfl,rfl,rfl,rfl,rfl,rfl,rfl,rfl,rfl,rfl,rfl,rfl,rfl,rfl,trivial⟩
def fixR (P:Rf→Bool) (R:List Rf) (k:Nat):List Nat:=(List.range k).filter fun i=>P (rAt R i)
theorem fixR_succ (P:Rf→Bool) (R:List Rf) (k:Nat):fixR P R (k+1)=if P (rAt R k)=true then fixR P R k++[k] else fixR P R k:=by
 unfold fixR;rw [List.range_succ,List.filter_append,List.filter_cons,List.filter_nil];split<;>simp
theorem fixR_len (P:Rf→Bool) (R:List Rf) (k:Nat):(fixR P R k).length≤k:=by
 have:=List.length_filter_le (fun i=>P (rAt R i)) (List.range k);rw [List.length_range] at this;exact this
theorem fixR_mem {P:Rf→Bool}{R:List Rf}{k c:Nat}(h:c∈fixR P R k):c<k:=by
 unfold fixR at h;exact List.mem_range.1 (List.mem_filter.1 h).1
theorem rAt_range (R:List Rf):(List.range R.length).map (rAt R)=R:=by
 refine List.ext_getElem (by simp) fun i h1 h2=>?_;rw [List.getElem_map,List.getElem_range];simp [rAt,List.getD_eq_getElem?_getD,h2]
theorem fixR_all (P:Rf→Bool) (R:List Rf):(fixR P R R.length).map (rAt R)=R.filter P:=by
 unfold fixR;rw [show (fun i=>P (rAt R i))=P ∘ rAt R from rfl,←List.filter_map,rAt_range]
def fitsI (R:List Rf) (CR:Rf→List Cell) (cols:List Column):List (List Nat):=cols.map fun c=>fixR (fun r=>coverB (CR r) c) R R.length
theorem toR_fits (R:List Rf) (CR:Rf→List Cell) (cols:List Column):toR R (fitsI R CR cols)=cols.map fun c=>R.filter fun r=>coverB (CR r) c:=by
 unfold toR fitsI;rw [List.map_map];exact List.map_congr_left fun c _=>fixR_all _ _
set_option maxHeartbeats 16000000 in
theorem findJ_spec {p:Pth}{R:List Rf}{CR:Rf→List Cell}{n:Nat}{q:Table}(hq:RectT q) (b2:rowsN q≤1000000) (hqc:q.cols.length≤1000)
  (hR:∀ cs:List Rf,(∀ r∈cs,r∈R)→RectT ⟨0,[],shCol CR cs⟩∧rowsN ⟨0,[],shCol CR cs⟩≤1000000) (hRl:R.length≤1000000) (out:List Fnd) (hout:out.length+(prodL (toR R (fitsI R CR q.cols))).length≤100000000000) :
  Spec Tryz.prog 42 [.agg (jnRow p R (R.map CR) n),.agg q.row,.osl 0 0 0 out.length out.length] [(0,.rows 5 (fndRows out) (some []))] (.osl 0 0 0 (visG p CR q n (toR R (fitsI R CR q.cols)) [] out).length (visG p CR q n (toR R (fitsI R CR q.cols)) [] out).length) [(0,.rows 5 (fndRows (visG p CR q n (toR R (fitsI R CR q.cols)) [] out)) (some []))]:=by
 have hfl:(fitsI R CR q.cols).length=q.cols.length:=by simp [fitsI]
 have spV:=fvisit_spec (fit:=fitsI R CR q.cols) (p:=p) (R:=R) (CR:=CR) (n:=n) hq b2 hR (by omega) hRl (fun f hf=>by
  obtain ⟨c,_,rfl⟩:=List.mem_map.1 hf
  exact ⟨Nat.le_trans (fixR_len _ _ _) hRl,fun x hx=>fixR_mem hx⟩) (fitsI R CR q.cols) [] out rfl (by simp) (by simp) hout
 unfold fiI fiO at spV;generalize visG p CR q n (toR R (fitsI R CR q.cols)) [] out=out2 at *;generalize visC (toR R (fitsI R CR q.cols)) []=cs2 at *;have hcl:=colRows_len q.cols;have hRn:=lnRows_len (R.map CR);rw [List.length_map] at hRn;have hol:=fndRows_len out;refine gEn env Tryz.func42 fun Γ hN hK hML=>?_;refine gGo ?_;intros;refine W.ownCell 7 0 0 301 1 rfl rfl rfl rfl rfl ?_;refine W.loopR (fun m st=>∃ (k:Nat) (es:List (Nat×V×V)) (ck:Nat),k≤q.cols.length∧m=q.cols.length-k∧st=⟨[(3,.bp 3 0),(4,.bp 4 0),(5,.bp 5 0),(7,.bp 7 0),(8,.omap 17 0),(19,.sl (colRows q.cols) false),(20,.int .i64 (colRows q.cols).length),(21,.int .i64 (k:Nat))],[(3,[.rows 5 [jnRow p R (R.map CR) n] none]),(4,[.rows 3 [q.row] none]),(5,[.rows 1 [[.osl 0 0 0 out.length out.length]] none]),(7,[.rows 1 [[.osl 301 0 0 k k]] none]),(17,[.map es ck (some [])]),(0,[.rows 5 (fndRows out) (some [])]),(301,[.rows 1 (rowRows (fitsI R CR (q.cols.take k))) (some [])])],[3,4,5,7,17,0,301]⟩)
  q.cols.length _ ⟨0,[],0,by omega,by omega,rfl⟩ gY ?_
 ·rintro m st ⟨k,es,ck,hk,rfl,rfl⟩;have hfk:(fitsI R CR (q.cols.take k)).length=k:=by simp [fitsI];omega
  have hfrl:=rowRows_len (fitsI R CR (q.cols.take k));refine gT (fun hb=>?_) fun hb=>?_
  ·have hlt:k<q.cols.length:=by omega
   have hcg:=colRows_get hlt;have hfs:fitsI R CR (q.cols.take (k+1))=fitsI R CR (q.cols.take k)++[fixR (fun r=>coverB (CR r) q.cols[k]) R R.length]:=by
    rw [List.take_succ_eq_append_getElem hlt];unfold fitsI;rw [List.map_append];rfl
   generalize q.cols[k]=c at *;(refine g ?_;intros);refine W.ownNil 11 302 1 rfl rfl ?_;refine W.loopR (fun m st=>∃ (j:Nat) (es:List (Nat×V×V)) (ck a:Nat) (rows:List (List V)),j≤R.length∧a=(fixR (fun r=>coverB (CR r) c) R j).length∧rows=natRows (fixR (fun r=>coverB (CR r) c) R j)∧m=R.length-j∧st=⟨[(3,.bp 3 0),(4,.bp 4 0),(5,.bp 5 0),(7,.bp 7 0),(8,.omap 17 0),(19,.sl (colRows q.cols) false),(20,.int .i64 (colRows q.cols).length),(21,.int .i64 (k:Nat)),(10,.bp 10 0),(11,.osl 302 0 0 a a),(26,.sl (lnRows (R.map CR)) false),(27,.int .i64 (lnRows (R.map CR)).length),(28,.int .i64 (j:Nat))],[(3,[.rows 5 [jnRow p R (R.map CR) n] none]),(4,[.rows 3 [q.row] none]),(5,[.rows 1 [[.osl 0 0 0 out.length out.length]] none]),(7,[.rows 1 [[.osl 301 0 0 k k]] none]),(17,[.map es ck (some [])]),(0,[.rows 5 (fndRows out) (some [])]),(301,[.rows 1 (rowRows (fitsI R CR (q.cols.take k))) (some [])]),(10,[.rows 2 [c.row] none]),(302,[.rows 1 rows (some [])])],[3,4,5,7,17,0,301,10,302]⟩)
    R.length _ ⟨0,es,ck,0,[],by omega,rfl,rfl,by omega,rfl⟩ gY ?_
   ·rintro m st ⟨j,es,ck,a,rows,hj,ha,hrw,rfl,rfl⟩;have hfl1:=fixR_len (fun r=>coverB (CR r) c) R j;have hfs1:=fixR_succ (fun r=>coverB (CR r) c) R j;have hrl:rows.length=a:=by rw [hrw,ha];simp [natRows]
    refine gT (fun hb=>?_) fun hb=>?_
    ·have hjl:j<R.length:=by omega
     have hra:rAt R j=R[j]:=by simp [rAt,List.getD_eq_getElem?_getD,hjl]
     have hCg:=lnRows_get (l:=R.map CR) (show j<(R.map CR).length by simpa using hjl);rw [List.getElem_map] at hCg;rw [hra] at hfs1;generalize R[j]=r at *;have sp:=covers_spec (CR r) c es ck;refine g ?_;cases hcb:coverB (CR r) c with
     | true =>
      rw [hcb] at sp;rw [if_pos hcb] at hfs1;refine gGo ?_;(refine gCA [(0,17)] [] [] (sp) ?_;conv=>whnf);refine gGo ?_;refine ⟨⟨rowsSz_cons rfl rowsSz_nil,hrl.symm⟩,fitsN (n:=a+1) (b:=8) (by omega) (by omega),.inl ⟨rfl,rfl,?_⟩⟩;(conv=>whnf);refine gGo ?_;exact gW ⟨j+1,_,_,a+1,rows++[[.int .i64 (j:Nat)]],by omega,by rw [hfs1,ha,List.length_append];rfl,by rw [hfs1,hrw];simp [natRows],rfl,rfl⟩
     | false =>
      rw [hcb] at sp;rw [if_neg (by rw [hcb];decide)] at hfs1;refine gGo ?_;(refine gCA [(0,17)] [] [] (sp) ?_;conv=>whnf);refine gGo ?_;exact gW ⟨j+1,_,_,a,rows,by omega,by rw [hfs1];exact ha,by rw [hfs1];exact hrw,rfl,rfl⟩
    ·have hje:j=R.length:=by omega
     subst hje;refine gGl ?_;refine Or.inl ?_;(conv=>whnf);refine gGo ?_;refine ⟨⟨rfl,(hfrl.trans hfk).symm⟩,fitsN (n:=k+1) (b:=24) (by omega) (by omega),.inl ⟨rfl,rfl,?_⟩⟩;(conv=>whnf);refine gGo ?_;rw [←natRows_len] at ha;subst ha;subst hrw;refine ⟨_,_,?_,⟨k+1,es,ck,by omega,rfl,rfl⟩,Ref.le (mp:=[(3,3),(4,4),(5,5),(7,7),(17,17),(0,0),(301,301)]) (bo:=[302]) (gs:=[]) (LeG.mq (by rw [hfs];exact (.ci 3 (.ci 4 (.ci 5 (.ci 7 (.ci 17 (.ci 0 (.cons 301 (b1:=.rows 1 (rowRows (fitsI R CR (q.cols.take k)++[fixR (fun r=>coverB (CR r) c) R R.length])) (some [])) rfl rfl (rowRows_lent rfl rfl (.inl rfl)) rfl .nil)))))))))⟩;omega
  ·have hke:k=q.cols.length:=by omega
   subst hke;rw [List.take_length];refine gGs ?_;refine gA ?_;refine gD rfl ?_;refine gG ?_;(conv=>whnf);refine gA ?_;(refine gE env hN (by kernel_rfl) ?_;conv=>whnf);refine gGs ?_;refine gA ?_;(refine gE env hN (by kernel_rfl) ?_;conv=>whnf);refine gGs ?_;refine gA ?_;(refine gE env hN (by kernel_rfl) ?_;conv=>whnf);refine gGs ?_;refine gA ?_;(refine gE env hN (by kernel_rfl) ?_;conv=>whnf);refine gGs ?_;refine W.ownCell 14 0 0 401 2 rfl rfl rfl rfl rfl ?_;refine W.ownCell 15 0 2 402 2 rfl rfl rfl rfl rfl ?_;refine W.leG (mp:=[(3,3),(4,4),(5,5),(7,7),(14,14),(15,15),(16,16),(0,0),(401,401),(402,402)]) (bo:=[301]) (st':=⟨[(5,.bp 5 0),(16,.bp 16 0)],[(3,[.rows 5 [jnRow p R (R.map CR) n] none]),(4,[.rows 3 [q.row] none]),(5,[.rows 1 [[.osl 0 0 0 out.length out.length]] none]),(7,[.rows 1 [[.sl (rowRows (fitsI R CR q.cols)) false]] none]),(14,[.rows 1 [[.osl 401 0 0 0 0]] none]),(15,[.rows 3 [[.int .i64 0,.str [],.osl 402 0 0 0 0]] none]),(16,[.rows 1 [[.fn 97 [.bp 7 0,.bp 14 0,.bp 3 0,.bp 15 0,.bp 16 0,.bp 4 0,.bp 5 0]]] none]),(0,[.rows 5 (fndRows out) (some [])]),(401,[.rows 2 (rfRows []) (some [])]),(402,[.rows 2 (colRows (shCol CR [])) (some [])])],[3,4,5,7,14,15,16,0,401,402]⟩)
    (LeG.mq (.ci 3 (.ci 4 (.ci 5 (.cons 7 (b1:=.rows 1 [[.sl (rowRows (fitsI R CR q.cols)) false]] none) rfl rfl (.rows _ _ _ ⟨⟨⟨Lent.whole rfl rfl (by rw [rowRows_len,hfl]) rfl (.inl rfl),rfl⟩,trivial⟩,trivial⟩) rfl (.ci 14 (.ci 15 (.ci 16 (.ci 0 (.ci 401 (.ci 402 .nil))))))))))) ?_
   refine gA ?_;(refine gE env hN (by kernel_rfl) ?_;conv=>whnf);refine gGs ?_;(refine gCA [(91,7),(92,14),(93,3),(94,15),(95,16),(96,4),(97,5),(101,401),(102,402),(103,0)] [(104,501),(105,502)] [] (spV) ?_;conv=>whnf);refine gGo ?_;(refine gM ?_;conv=>whnf);exact retH rfl (.refl _) rfl rfl rfl ⟨rfl,rfl,trivial⟩
end Go.Sx.Sp
