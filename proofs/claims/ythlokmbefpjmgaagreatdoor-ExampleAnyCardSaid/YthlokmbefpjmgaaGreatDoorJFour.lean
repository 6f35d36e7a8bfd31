/- Reports of paths. -/
import Derived.Test.YthlokmbefpjmgaaGreatDoorJThree
import Derived.Test.YthlokmbefpjmgaaGreatDoorSxFive
import Derived.Test.YthlokmbefpjmgaaGreatDoorSxFour
set_option linter.unusedVariables false
set_option linter.unusedSimpArgs false
namespace Go.Sx.Sp
open Go Go.Sx Go.Proofs
attribute [local irreducible] GoodW famL
theorem plan_bound {l:List Table}{p:Pth}(h:validE l p=0) {i:Nat}(hi:i≤p.steps.length):∀ x∈cntsN l p i,0≤x∧x≤1125899906842624:=by
 have hlen:=nodesN_len l p p.steps.length (Nat.le_refl _);obtain ⟨k,hk⟩:∃ k,k+i=p.steps.length:=⟨p.steps.length-i,by omega⟩
 have hnx:(runD (nodesN l p p.steps.length) (p.steps.length+1) k)[i]?=some (nodeAt l p p.steps.length i):=by
  obtain ⟨d,h1,_,h3⟩:=runD_shape hlen k (by omega) i _ (nodesN_get l p (Nat.le_refl _) hi);rw [h1,h3 (by omega)]
 have hst:∀ q,i≤q→(planN l p)[q]?=(runD (nodesN l p p.steps.length) (p.steps.length+1) (k+1))[q]?:=fun q hq=>by
  unfold planN;have:=run_stable (nodesN l p p.steps.length) (p.steps.length+1) q (k+1) i (by omega) (by omega);rw [show k+1+i=p.steps.length+1 by omega] at this;exact this
 have hst2:∀ q,i<q→(planN l p)[q]?=(runD (nodesN l p p.steps.length) (p.steps.length+1) k)[q]?:=fun q hq=>by
  rw [hst q (by omega)];exact run_stable (nodesN l p p.steps.length) (p.steps.length+1) q k 1 (by omega) (by omega)
 have hko:kidsOf (runD (nodesN l p p.steps.length) (p.steps.length+1) k) (nodeAt l p p.steps.length i)=kidsOf (planN l p) (nodeAt l p p.steps.length i):=by
  refine kidsOf_congr fun q hq=>?_;rw [nodeAt_kids] at hq;obtain ⟨q',g1,g2,rfl⟩:=kidsL_mem.1 hq;have:=parI_le p (i:=q') (by omega);exact (hst2 _ (by omega)).symm
 have hc:=cntOK_of h k (by omega);rw [show p.steps.length+1-1-k=i by omega] at hc;have hb:=hc.bnd;obtain ⟨g1,g2⟩:=List.getElem?_eq_some_iff.1 hnx;rw [g2] at hb;intro x hx;unfold cntsN at hx;obtain ⟨r,hr,rfl⟩:=List.mem_map.1 hx;have:=hb r (List.mem_range.1 hr) _ (Nat.le_refl _);rw [show (nodeAt l p p.steps.length i).kids.length=(kidsOf (runD (nodesN l p p.steps.length) (p.steps.length+1) k) (nodeAt l p p.steps.length i)).length by simp [kidsOf],List.take_length,hko] at this;exact this
theorem tblRows_snoc (a:List Table) (t:Table):tblRows (a++[t])=tblRows a++[t.row]:=by simp [tblRows]
def fitC (a b:Cell):Bool:=!a.null&&(!b.null&&decide (a.text=b.text))
def sumTo (n:Nat) (f:Nat→Int):Int:=((List.range n).map f).sum
theorem sumTo_succ (n:Nat) (f:Nat→Int):sumTo (n+1) f=sumTo n f+f n:=by simp [sumTo,List.range_succ]
theorem sumTo_congr {n:Nat}{f g:Nat→Int}(h:∀ y,y<n→f y=g y):sumTo n f=sumTo n g:=by
 unfold sumTo;rw [List.map_congr_left fun y hy=>h y (List.mem_range.1 hy)]
theorem sumTo_nonneg {n:Nat}{f:Nat→Int}(h:∀ y,y<n→0≤f y):0≤sumTo n f:=by
 induction n with
 | zero=>exact Int.le_refl _
 | succ n ih =>
  rw [sumTo_succ];have:=ih fun y hy=>h y (by omega);have:=h n (by omega);omega
theorem sumTo_pos {n:Nat}{f:Nat→Int}(h:∀ y,y<n→0≤f y):0<sumTo n f↔∃ y,y<n∧0<f y:=by
 induction n with
 | zero=>simp [sumTo]
 | succ n ih =>
  rw [sumTo_succ];have ih:=ih fun y hy=>h y (by omega);have h0:=sumTo_nonneg (n:=n) (f:=f) fun y hy=>h y (by omega);have h1:=h n (by omega);constructor
  ·intro h2;by_cases h3:0<f n
   ·exact ⟨n,by omega,h3⟩
   ·obtain ⟨y,a,b⟩:=ih.1 (by omega);exact ⟨y,by omega,b⟩
  ·rintro ⟨y,a,b⟩;by_cases e:y=n
   ·subst e;omega
   ·have:=ih.2 ⟨y,by omega,b⟩;omega
theorem sumTo_const (n:Nat) (c:Int):sumTo n (fun _=>c)=n*c:=by
 induction n with
 | zero=>simp [sumTo]
 | succ n ih=>rw [sumTo_succ,ih,Int.natCast_add,Int.add_mul];simp
theorem sumTo_mul (n:Nat) (f:Nat→Int) (c:Int):sumTo n (fun y=>c*f y)=c*sumTo n f:=by
 induction n with
 | zero=>simp [sumTo]
 | succ n ih=>rw [sumTo_succ,sumTo_succ,ih,Int.mul_add]
theorem look_talR (t:Table) (own:Nat) (cnt:Nat→Int) (s:Str):∀ n,lookT (talR t own cnt n) s=sumTo n fun y=>if (!(cellT t own y).null&&decide ((cellT t own y).text=s))=true then cnt y else 0
 | 0=>rfl
 | n+1=>by
  have ih:=look_talR t own cnt s n;have e:talR t own cnt (n+1)=if (cellT t own n).null=true then talR t own cnt n else addT (talR t own cnt n) (cellT t own n).text (cnt n):=rfl
  rw [sumTo_succ,←ih,e];clear e;cases hn:(cellT t own n).null with
  | true=>simp
  | false =>
   rw [if_neg (by decide),lookT_add,Bool.not_false,Bool.true_and];by_cases e:s=(cellT t own n).text
   ·subst e;simp
   ·rw [if_neg e,if_neg (fun h=>e (of_decide_eq_true h).symm)];omega
section
variable (l:List Table) (p:Pth)
def tabN (i:Nat):Table:=(nodeAt l p p.steps.length i).t
def frN (i:Nat):Nat:=(nodeAt l p p.steps.length i).fr
def ownN (i:Nat):Nat:=(nodeAt l p p.steps.length i).own
def cntI (i r:Nat):Int:=(cntsN l p i).getD r 0
def fitS (k:Nat) (c:Cell):Int:=sumTo (rowsN (tabN l p k)) fun y=>if fitC c (cellT (tabN l p k) (ownN l p k) y)=true then cntI l p k y else 0
end
theorem cntI_nonneg {l:List Table}{p:Pth}(h:validE l p=0) {i:Nat}(hi:i≤p.steps.length) (r:Nat):0≤cntI l p i r:=by
 unfold cntI;rw [List.getD_eq_getElem?_getD];cases e:(cntsN l p i)[r]? with
 | none=>simp
 | some x=>exact (plan_bound h hi x (List.mem_of_getElem? e)).1
theorem fitS_nonneg {l:List Table}{p:Pth}(h:validE l p=0) {i:Nat}(hi:i≤p.steps.length) (c:Cell):0≤fitS l p i c:=by
 unfold fitS;refine sumTo_nonneg fun y hy=>?_;have:=cntI_nonneg h hi y;split<;>omega
theorem foldl_kids {α:Type}(f g:α→Nat→α):∀ (l:List Nat) (x:α),(∀ k∈l,∀ x,f x k=g x k)→l.foldl f x=l.foldl g x
 | [],x,_=>rfl
 | k::l,x,h=>by
  rw [List.foldl_cons,List.foldl_cons,h k (by simp)];exact foldl_kids f g l _ fun k hk=>h k (by simp [hk])
theorem cntI_eq {l:List Table}{p:Pth}{i r:Nat}(hi:i≤p.steps.length) (hr:r<rowsN (tabN l p i)) :
  cntI l p i r=(kidsL p p.steps.length i).foldl (fun x k=>x*fitS l p k (cellT (tabN l p i) (frN l p k) r)) 1:=by
 unfold cntI cntsN;have hr':r<rowsN (nodeAt l p p.steps.length i).t:=hr;rw [List.getD_eq_getElem?_getD,List.getElem?_map,List.getElem?_range hr'];simp only [Option.map_some,Option.getD_some];unfold cntR kidsOf;rw [nodeAt_kids,List.foldl_map];refine foldl_kids _ _ _ _ fun k hk x=>?_;obtain ⟨q,g1,g2,rfl⟩:=kidsL_mem.1 hk;have hg:=plan_get l p (i:=q+1) (by omega);rw [List.getD_eq_getElem?_getD,hg];simp only [Option.getD_some];unfold mulK fitS Nod.tal;simp only;show (if (cellT (tabN l p i) (frN l p (q+1)) r).null=true then 0 else x*lookT (talsN l p (q+1)) (cellT (tabN l p i) (frN l p (q+1)) r).text)=_;generalize cellT (tabN l p i) (frN l p (q+1)) r=c;cases hn:c.null with
 | true =>
  have h0:∀ y,fitC c (cellT (tabN l p (q+1)) (ownN l p (q+1)) y)=false:=fun y=>by unfold fitC;rw [hn];rfl
  simp only [h0];have:=sumTo_const (rowsN (tabN l p (q+1))) 0;rw [Int.mul_zero] at this;simp [this]
 | false =>
  rw [if_neg (by decide)];congr 1;unfold talsN;rw [if_neg (by omega),look_talR];refine sumTo_congr fun y hy=>?_;have hy':y<rowsN (nodeAt l p p.steps.length (q+1)).t:=hy;unfold fitC cntI cntsN;rw [hn,List.getD_eq_getElem?_getD,List.getElem?_map,List.getElem?_range hy'];simp only [Option.map_some,Option.getD_some,Bool.not_false,Bool.true_and];have e:decide ((cellT (nodeAt l p p.steps.length (q+1)).t (nodeAt l p p.steps.length (q+1)).own y).text=c.text)=decide (c.text=(cellT (tabN l p (q+1)) (ownN l p (q+1)) y).text):=decide_eq_decide.2 eq_comm;rw [e];rfl
end Go.Sx.Sp
namespace Go.Sx.Sp
open Go Go.Sx Go.Proofs
attribute [local irreducible] GoodW famL
section
variable (l:List Table) (p:Pth)
end
section
variable {l:List Table}{p:Pth}
theorem foldl_ne (f:Nat→Int):∀ (l:List Nat) (x:Int),l.foldl (fun x k=>x*f k) x≠0↔x≠0∧∀ k∈l,f k≠0
 | [],x=>by simp
 | k::l,x=>by
  rw [List.foldl_cons,foldl_ne f l,Int.mul_ne_zero_iff];simp [and_assoc]
theorem cntI_ne {i r:Nat}(hi:i≤p.steps.length) (hr:r<rowsN (tabN l p i)):cntI l p i r≠0↔∀ q,q<p.steps.length→parI p q=i→fitS l p (q+1) (cellT (tabN l p i) (frN l p (q+1)) r)≠0:=by
 rw [cntI_eq hi hr,foldl_ne (fun k=>fitS l p k (cellT (tabN l p i) (frN l p k) r))];constructor
 ·rintro ⟨_,h⟩ q hq rfl;exact h _ (kidsL_mem.2 ⟨q,hq,rfl,rfl⟩)
 ·intro h;refine ⟨by decide,fun k hk=>?_⟩;obtain ⟨q,g1,g2,rfl⟩:=kidsL_mem.1 hk;exact h q g1 g2
theorem fitS_null {k:Nat}{c:Cell}(h:c.null=true):fitS l p k c=0:=by
 unfold fitS;have h0:∀ y,fitC c (cellT (tabN l p k) (ownN l p k) y)=false:=fun y=>by unfold fitC;rw [h];rfl
 simp only [h0];have:=sumTo_const (rowsN (tabN l p k)) 0;rw [Int.mul_zero] at this;simp [this]
end
end Go.Sx.Sp
namespace Go.Sx.Sp
open Go Go.Sx Go.Proofs
attribute [local irreducible] GoodW famL
end Go.Sx.Sp
namespace Go.Sx.Sp
open Go Go.Sx Go.Proofs Go.RowKit
attribute [local irreducible] GoodW famL
theorem arg_ints {n:Nat}{u:V}(hs:argShape T (n+2) 22 u):∃ l:List Int,u=.sl (intRows .i64 l) false:=by
 obtain ⟨rows,hr,_,h⟩:=shape_sl (T:=T) (t:=22) rfl (argShape_one (T:=T) (t:=22) rfl rfl hs);obtain ⟨l,rfl,_⟩:=rows_map (f:=fun x:Int=>[V.int .i64 x]) (p:=fun _=>True) (rows:=rows) fun r hr=>by
  obtain ⟨x,rfl,_⟩:=shape_int (T:=T) (t:=3) rfl (h r hr);exact ⟨x,rfl,trivial⟩
 cases hr;exact ⟨l,rfl⟩
end Go.Sx.Sp
namespace Go.Sx.Sp
open Go Go.Sx Go.Proofs
attribute [local irreducible] GoodW famL
noncomputable def wordF (ws:List Str) (l:List Int) (p:Nat):Str:=if h:ws≠[]∧ws.length≤4611686018427387904∧p≤l.length then Classical.choose (word_spec l p ws h.1 h.2.1 h.2.2) else []
theorem wordF_spec {ws:List Str}{l:List Int}{p:Nat}(h1:ws≠[]) (h2:ws.length≤4611686018427387904) (h:p≤l.length):wordF ws l p∈ws∧Spec Tryz.prog 25 [.bp 0 0,.sl (strRows ws) false] [(0,diceB l p)] (.str (wordF ws l p)) [(0,diceB l (nextP l p))]:=by
 have:=Classical.choose_spec (word_spec l p ws h1 h2 h);simp only [wordF,dif_pos (show ws≠[]∧ws.length≤4611686018427387904∧p≤l.length from ⟨h1,h2,h⟩)];exact this
def seqF {α:Type}(step:Nat→Nat→α×Nat):Nat→Nat→Nat→List α×Nat
 | 0,_,p=>([],p)
 | n+1,i,p=>((step i p).1::(seqF step n (i+1) (step i p).2).1,(seqF step n (i+1) (step i p).2).2)
theorem seqF_len {α:Type}(step:Nat→Nat→α×Nat):∀ n i p,(seqF step n i p).1.length=n
 | 0,_,_=>rfl
 | n+1,i,p=>by simp only [seqF,List.length_cons,seqF_len step n]
theorem seqF_ok {α:Type}{step:Nat→Nat→α×Nat}{L:Nat}{Q:Nat→α→Prop}(h:∀ i p,p≤L→Q i (step i p).1∧(step i p).2≤L):∀ n i p,p≤L→(∀ j (hj:j<(seqF step n i p).1.length),Q (i+j) (seqF step n i p).1[j])∧(seqF step n i p).2≤L
 | 0,_,p,hp=>⟨fun j hj=>(by cases hj),hp⟩
 | n+1,i,p,hp=>by
  obtain ⟨h1,h2⟩:=h i p hp;obtain ⟨h3,h4⟩:=seqF_ok h n (i+1) _ h2;refine ⟨fun j hj=>?_,h4⟩;cases j with
  | zero=>exact h1
  | succ j =>
   have:=h3 j (by simp only [seqF,List.length_cons] at hj;omega);rw [show i+(j+1)=i+1+j by omega];exact this
theorem cellRows_snoc (a:List Cell) (c:Cell):cellRows (a++[c])=cellRows a++[c.row]:=by simp [cellRows]
section
variable (l:List Table) (p:Pth)
def stepFits (q x y:Nat):Bool:=fitC (cellT (tabN l p (parI p q)) (frN l p (q+1)) x) (cellT (tabN l p (q+1)) (ownN l p (q+1)) y)
structure CombK (k:Nat) (r:Nat→Nat):Prop where
 lt:∀ i,i<k→r i<rowsN (tabN l p i)
 fit:∀ q,q+1<k→stepFits l p q (r (parI p q)) (r (q+1))=true
def Comb (r:Nat→Nat):Prop:=CombK l p (p.steps.length+1) r
end
section
variable {l:List Table}{p:Pth}
theorem fitS_pos (h:validE l p=0) {k:Nat}(hk:k≤p.steps.length) (c:Cell):fitS l p k c≠0↔∃ y,y<rowsN (tabN l p k)∧fitC c (cellT (tabN l p k) (ownN l p k) y)=true∧cntI l p k y≠0:=by
 have h0:∀ y,y<rowsN (tabN l p k)→0≤(if fitC c (cellT (tabN l p k) (ownN l p k) y)=true then cntI l p k y else 0):=fun y hy=>by
  have:=cntI_nonneg h hk y;split<;>omega
 have hp:=sumTo_pos h0;have hn:=fitS_nonneg h hk c;unfold fitS at *;constructor
 ·intro h1;obtain ⟨y,a,b⟩:=hp.1 (by omega);refine ⟨y,a,?_⟩;split at b
  ·rename_i hf;exact ⟨hf,by omega⟩
  ·omega
 ·rintro ⟨y,a,b,c⟩;have:=hp.2 ⟨y,a,by rw [if_pos b];have:=cntI_nonneg h hk y;omega⟩;omega
theorem comb_cnt (h:validE l p=0) {r:Nat→Nat}(hr:Comb l p r):∀ k,k≤p.steps.length→cntI l p (p.steps.length-k) (r (p.steps.length-k))≠0:=by
 intro k
 induction k using Nat.strongRecOn with
 | ind k ih =>
  intro hk;rw [cntI_ne (by omega) (hr.lt _ (by omega))];intro q hq hpar;have hle:=parI_le p (i:=q) (by omega);rw [fitS_pos h (by omega)];refine ⟨r (q+1),hr.lt _ (by omega),?_,?_⟩
  ·have:=hr.fit q (by omega);unfold stepFits at this;rw [hpar] at this;exact this
  ·have:=ih (p.steps.length-(q+1)) (by omega) (by omega)
   rwa [show p.steps.length-(p.steps.length-(q+1))=q+1 by omega] at this
theorem comb_cnt' (h:validE l p=0) {r:Nat→Nat}(hr:Comb l p r) {i:Nat}(hi:i≤p.steps.length):cntI l p i (r i)≠0:=by
 have:=comb_cnt h hr (p.steps.length-i) (by omega)
 rwa [show p.steps.length-(p.steps.length-i)=i by omega] at this
end
end Go.Sx.Sp
namespace Go.Sx.Sp
open Go Go.Sx Go.Proofs
attribute [local irreducible] GoodW famL
section
variable (A B C:List Column) (a b c e:Nat)
end
section
variable {A B C:List Column}{a b c e:Nat}
end
end Go.Sx.Sp
namespace Go.Sx.Sp
open Go Go.Sx Go.Proofs
attribute [local irreducible] GoodW famL
end Go.Sx.Sp
