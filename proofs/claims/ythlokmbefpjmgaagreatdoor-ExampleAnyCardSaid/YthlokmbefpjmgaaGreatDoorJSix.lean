/- Relations of a list, drawn paths, rows of paths as the document tells them. -/
import Derived.Test.YthlokmbefpjmgaaGreatDoorJFive
import Derived.Test.YthlokmbefpjmgaaGreatDoorSxFive
import Derived.Test.YthlokmbefpjmgaaGreatDoorJFour
import Derived.Test.YthlokmbefpjmgaaGreatDoorSxFour
set_option linter.unusedVariables false
set_option linter.unusedSimpArgs false
namespace Go.Sx.Sp
open Go Go.Sx Go.Proofs
attribute [local irreducible] GoodW famL
theorem ascB_iff:∀ (l:List Table),ascB l=true↔∀ i (h:i+1<l.length),l[i].id<l[i+1].id
 | []=>by simp [ascB]
 | [a]=>by simp [ascB]
 | a::b::r=>by
  have ih:=ascB_iff (b::r);simp only [ascB,Bool.and_eq_true,decide_eq_true_eq,ih];constructor
  ·rintro ⟨h1,h2⟩ i hi;cases i with
   | zero=>exact h1
   | succ i=>exact h2 i (by simp at hi ⊢;omega)
  ·intro h;refine ⟨h 0 (by simp),fun i hi=>?_⟩;exact h (i+1) (by simp at hi ⊢;omega)
def relRows (l:List (List Int)):List (List V):=l.map intsV
theorem relRows_len (l:List (List Int)):(relRows l).length=l.length:=by simp [relRows]
theorem range_flat {α:Type}(f:Nat→List α) (n:Nat):(List.range (n+1)).flatMap f=(List.range n).flatMap f++f n:=by simp [List.range_succ]
theorem flat_le {α β:Type}(f:α→List β) (B:Nat):∀ (l:List α),(∀ x∈l,(f x).length≤B)→(l.flatMap f).length≤l.length*B
 | [],_=>by simp
 | x::l,h=>by
  have h1:=h x (by simp);have h2:=flat_le f B l fun y hy=>h y (by simp [hy]);rw [List.flatMap_cons,List.length_append,List.length_cons,Nat.add_mul];omega
def Rel11 (r:List Int):Prop:=r.length=11
theorem rel11 {r:List Int}(h:Rel11 r):∃ r0 r1 r2 r3 r4 r5 r6 r7 r8 r9 r10,r=[r0,r1,r2,r3,r4,r5,r6,r7,r8,r9,r10]:=by
 match r,h with
 | [r0,r1,r2,r3,r4,r5,r6,r7,r8,r9,r10],_=>exact ⟨_,_,_,_,_,_,_,_,_,_,_,rfl⟩
theorem relRows_get {l:List (List Int)}{i:Nat}(h:i<l.length):(relRows l)[i]?=some (intsV l[i]):=by simp [relRows,h]
def stpOf (r:List Int):Stp:=⟨r.getD 0 0,r.getD 1 0,r.getD 2 0,r.getD 3 0⟩
def tabsM (l:List Table) (p:Pth):List Table:=tabOf l p.start::p.steps.map fun s=>tabOf l s.tt
theorem tabsM_len (l:List Table) (p:Pth):(tabsM l p).length=p.steps.length+1:=by simp [tabsM]
theorem tabsM_get (l:List Table) (p:Pth) {i:Nat}(h:i≤p.steps.length):(tabsM l p)[i]?=some (tabN l p i):=by
 cases i with
 | zero=>rfl
 | succ q =>
  have hq:q<p.steps.length:=by omega
  unfold tabsM tabN nodeAt stpAt;simp [hq]
section
variable (l:List Table) (p:Pth)
def extF (g:List Nat→List (List Nat)) (hv:List Nat) (y:Nat):List (List Nat):=if stepFits l p (hv.length-1) (hv.getD (parI p (hv.length-1)) 0) y=true then g (hv++[y]) else []
def extN (g:List Nat→List (List Nat)) (hv:List Nat) (n:Nat):List (List Nat):=(List.range n).flatMap (extF l p g hv)
def ext:Nat→List Nat→List (List Nat)
 | 0,hv=>[hv]
 | k+1,hv=>extN l p (ext k) hv (rowsN (tabN l p hv.length))
def rowsOfP (n:Nat):List (List Nat):=(List.range n).flatMap fun r=>ext l p p.steps.length [r]
def rowsL:List (List Nat):=rowsOfP l p (rowsN (tabN l p 0))
end
def rowRows (L:List (List Nat)):List (List V):=L.map fun r=>[.sl (natRows r) false]
theorem rowRows_len (L:List (List Nat)):(rowRows L).length=L.length:=by simp [rowRows]
theorem rowRows_get {L:List (List Nat)}{i:Nat}(h:i<L.length):(rowRows L)[i]?=some [.sl (natRows L[i]) false]:=by simp [rowRows,h]
theorem rowRows_snoc (a:List (List Nat)) (t:List Nat):rowRows (a++[t])=rowRows a++[[.sl (natRows t) false]]:=by simp [rowRows]
theorem natRows_sz (l:List Nat):rowsSz (natRows l) 1:=by
 unfold rowsSz natRows;intro r hr;obtain ⟨c,_,rfl⟩:=List.mem_map.1 hr;rfl
theorem natRows_pure (l:List Nat):pureB (natRows l)=true:=by
 unfold pureB natRows;rw [List.all_eq_true];intro r hr;obtain ⟨c,_,rfl⟩:=List.mem_map.1 hr;rfl
end Go.Sx.Sp
namespace Go.Sx.Sp
open Go Go.Sx Go.Proofs
attribute [local irreducible] GoodW famL
def prodTo:Nat→(Nat→Int)→Int
 | 0,_=>1
 | n+1,f=>prodTo n f*f n
theorem prodTo_congr {n:Nat}{f g:Nat→Int}(h:∀ q,q<n→f q=g q):prodTo n f=prodTo n g:=by
 induction n with
 | zero=>rfl
 | succ n ih =>
  simp only [prodTo];rw [ih fun q hq=>h q (by omega),h n (by omega)]
theorem prodTo_mul (n:Nat) (f g:Nat→Int):prodTo n (fun q=>f q*g q)=prodTo n f*prodTo n g:=by
 induction n with
 | zero=>rfl
 | succ n ih =>
  simp only [prodTo,ih];generalize prodTo n f=a;generalize prodTo n g=b;rw [Int.mul_assoc,Int.mul_assoc,Int.mul_left_comm b]
theorem prodTo_one (n:Nat):prodTo n (fun _=>1)=1:=by
 induction n with
 | zero=>rfl
 | succ n ih=>simp only [prodTo,ih,Int.mul_one]
theorem prodTo_at (n j:Nat) (c:Int) (h:j<n):prodTo n (fun q=>if q=j then c else 1)=c:=by
 induction n with
 | zero=>omega
 | succ n ih =>
  simp only [prodTo];by_cases e:j=n
  ·subst e;rw [prodTo_congr (g:=fun _=>1) (fun q hq=>if_neg (by omega)),prodTo_one,if_pos rfl,Int.one_mul]
  ·rw [ih (by omega),if_neg (fun h=>e h.symm),Int.mul_one]
theorem prodTo_foldl (f:Nat→Int) (g:Nat→Bool):∀ m,(((List.range m).filter g).map (· + 1)).foldl (fun x k=>x*f k) 1=prodTo m (fun q=>if g q=true then f (q+1) else 1)
 | 0=>rfl
 | m+1=>by
  have ih:=prodTo_foldl f g m;rw [List.range_succ,List.filter_append,List.map_append,List.foldl_append,ih];simp only [prodTo];cases hg:g m with
  | true=>simp [hg]
  | false=>simp [hg]
section
variable {l:List Table}{p:Pth}
theorem cntI_prod {i r:Nat}(hi:i≤p.steps.length) (hr:r<rowsN (tabN l p i)):cntI l p i r=prodTo p.steps.length (fun q=>if parI p q=i then fitS l p (q+1) (cellT (tabN l p i) (frN l p (q+1)) r) else 1):=by
 rw [cntI_eq hi hr];unfold kidsL;rw [prodTo_foldl (fun k=>fitS l p k (cellT (tabN l p i) (frN l p k) r)) (fun q=>decide (parI p q=i))];exact prodTo_congr fun q _=>by simp
variable (l p) in
end
def facS (l:List Table) (p:Pth) (hv:List Nat) (q:Nat):Int:=fitS l p (q+1) (cellT (tabN l p (parI p q)) (frN l p (q+1)) (hv.getD (parI p q) 0))
def wgt (l:List Table) (p:Pth) (j:Nat) (hv:List Nat):Int:=prodTo p.steps.length (fun q=>if j≤q∧parI p q≤j then facS l p hv q else 1)
section
variable {l:List Table}{p:Pth}
theorem wgt_end {hv:List Nat}:wgt l p p.steps.length hv=1:=by
 unfold wgt;rw [prodTo_congr (g:=fun _=>1) (fun q hq=>if_neg (by omega)),prodTo_one]
theorem getD_app {hv:List Nat}{y i:Nat}(h:i<hv.length):(hv++[y]).getD i 0=hv.getD i 0:=by
 rw [List.getD_eq_getElem?_getD,List.getD_eq_getElem?_getD,List.getElem?_append_left h]
theorem getD_last {hv:List Nat}{y:Nat}:(hv++[y]).getD hv.length 0=y:=by
 rw [List.getD_eq_getElem?_getD,List.getElem?_append_right (Nat.le_refl _),Nat.sub_self];rfl
theorem wgt_step {j:Nat}{hv:List Nat}(hj:j<p.steps.length) (hl:hv.length=j+1) :
  wgt l p j hv=sumTo (rowsN (tabN l p (j+1))) fun y=>if stepFits l p j (hv.getD (parI p j) 0) y=true then wgt l p (j+1) (hv++[y]) else 0:=by
 have hA:wgt l p j hv=facS l p hv j*prodTo p.steps.length (fun q=>if j+1≤q∧parI p q≤j then facS l p hv q else 1):=by
  unfold wgt;rw [←prodTo_at p.steps.length j (facS l p hv j) hj,←prodTo_mul];refine prodTo_congr fun q hq=>?_;have hp:=parI_le p (i:=q) (by omega);by_cases e:q=j
  ·subst e;rw [if_pos ⟨Nat.le_refl _,hp⟩,if_pos rfl,if_neg (by omega),Int.mul_one]
  ·rw [if_neg e,Int.one_mul];by_cases h2:j≤q∧parI p q≤j
   ·rw [if_pos h2,if_pos ⟨by omega,h2.2⟩]
   ·rw [if_neg h2,if_neg (fun h=>h2 ⟨by omega,h.2⟩)]
 have hB:∀ y,y<rowsN (tabN l p (j+1))→wgt l p (j+1) (hv++[y])=prodTo p.steps.length (fun q=>if j+1≤q∧parI p q≤j then facS l p hv q else 1)*cntI l p (j+1) y:=fun y hy=>by
  rw [cntI_prod (by omega) hy,←prodTo_mul];unfold wgt;refine prodTo_congr fun q hq=>?_;have hp:=parI_le p (i:=q) (by omega);by_cases e:parI p q=j+1
  ·rw [if_pos ⟨by omega,by omega⟩,if_neg (by omega),if_pos e,Int.one_mul];unfold facS;rw [e,show j+1=hv.length from hl.symm,getD_last]
  ·rw [if_neg e,Int.mul_one];by_cases h2:j+1≤q∧parI p q≤j
   ·rw [if_pos ⟨h2.1,by omega⟩,if_pos h2];unfold facS;rw [getD_app (by omega)]
   ·rw [if_neg h2,if_neg (fun h=>h2 ⟨h.1,by omega⟩)]
 rw [hA];generalize prodTo p.steps.length (fun q=>if j+1≤q∧parI p q≤j then facS l p hv q else 1)=A at *;unfold facS fitS;rw [Int.mul_comm,←sumTo_mul];refine sumTo_congr fun y hy=>?_;rw [hB y hy];unfold stepFits;split
 ·rfl
 ·exact Int.mul_zero _
theorem flat_len {α:Type}(f:Nat→List α):∀ n,(((List.range n).flatMap f).length:Int)=sumTo n fun y=>((f y).length:Int)
 | 0=>rfl
 | n+1=>by
  rw [range_flat,List.length_append,Int.natCast_add,flat_len f n,sumTo_succ]
theorem ext_len:∀ (k:Nat) (hv:List Nat),hv≠[]→hv.length+k=p.steps.length+1→((ext l p k hv).length:Int)=wgt l p (hv.length-1) hv
 | 0,hv,hne,hl=>by
  rw [show hv.length-1=p.steps.length by omega,wgt_end];rfl
 | k+1,hv,hne,hl=>by
  have hpos:0<hv.length:=List.length_pos_iff.2 hne;obtain ⟨j,hj⟩:∃ j,hv.length=j+1:=⟨hv.length-1,by omega⟩
  rw [show hv.length-1=j by omega,wgt_step (by omega) hj];show ((extN l p (ext l p k) hv (rowsN (tabN l p hv.length))).length:Int)=_;unfold extN;rw [flat_len,hj];refine sumTo_congr fun y hy=>?_;unfold extF;rw [show hv.length-1=j by omega];split
  ·rw [ext_len k (hv++[y]) (by simp) (by rw [List.length_append,List.length_singleton];omega)];congr 1;rw [List.length_append,List.length_singleton];omega
  ·rfl
theorem cnt_ext {r:Nat}(hr:r<rowsN (tabN l p 0)):cntI l p 0 r=((ext l p p.steps.length [r]).length:Int):=by
 rw [ext_len p.steps.length [r] (by simp) (by rw [List.length_singleton];omega),cntI_prod (Nat.zero_le _) hr];unfold wgt;refine prodTo_congr fun q hq=>?_;show _=if 0≤q∧parI p q≤0 then facS l p [r] q else 1
 by_cases e:parI p q=0
 ·rw [if_pos e,if_pos ⟨Nat.zero_le _,by omega⟩];unfold facS;rw [e];rfl
 ·rw [if_neg e,if_neg (fun h=>e (by omega))]
theorem rows_total:sumTo (rowsN (tabN l p 0)) (cntI l p 0)=((rowsL l p).length:Int):=by
 unfold rowsL rowsOfP;rw [flat_len];exact sumTo_congr fun r hr=>cnt_ext hr
theorem ext_mem:∀ (k:Nat) (hv x:List Nat),hv≠[]→hv.length+k=p.steps.length+1→CombK l p hv.length (fun i=>hv.getD i 0)→x∈ext l p k hv→x.length=p.steps.length+1∧Comb l p (fun i=>x.getD i 0)∧∀ i,i<hv.length→x.getD i 0=hv.getD i 0
 | 0,hv,x,hne,hl,hc,hx=>by
  have hx:x=hv:=List.mem_singleton.1 hx;subst hx;refine ⟨by omega,?_,fun i _=>rfl⟩;unfold Comb;rw [show p.steps.length+1=x.length by omega];exact hc
 | k+1,hv,x,hne,hl,hc,hx=>by
  have hpos:0<hv.length:=List.length_pos_iff.2 hne;obtain ⟨j,hj⟩:∃ j,hv.length=j+1:=⟨hv.length-1,by omega⟩
  change x∈extN l p (ext l p k) hv (rowsN (tabN l p hv.length)) at hx;unfold extN at hx;rw [List.mem_flatMap] at hx;obtain ⟨y,hy,h1⟩:=hx;have hy:=List.mem_range.1 hy;unfold extF at h1;rw [show hv.length-1=j by omega] at h1;split at h1
  ·rename_i hf;have hpar:=parI_le p (i:=j) (by omega);have hc2:CombK l p (hv++[y]).length (fun i=>(hv++[y]).getD i 0):=by
    rw [List.length_append,List.length_singleton];refine ⟨fun i hi=>?_,fun q hq=>?_⟩
    ·by_cases e:i=hv.length
     ·subst e;simp only [getD_last];exact hy
     ·simp only [getD_app (show i<hv.length by omega)];exact hc.lt i (by omega)
    ·have hp:=parI_le p (i:=q) (by omega);by_cases e:q+1=hv.length
     ·obtain rfl:q=j:=by omega
      simp only [e,getD_last,getD_app (show parI p q<hv.length by omega)];exact hf
     ·simp only [getD_app (show q+1<hv.length by omega),getD_app (show parI p q<hv.length by omega)];exact hc.fit q (by omega)
   obtain ⟨g1,g2,g3⟩:=ext_mem k (hv++[y]) x (by simp) (by rw [List.length_append,List.length_singleton];omega) hc2 h1;refine ⟨g1,g2,fun i hi=>?_⟩;rw [g3 i (by rw [List.length_append];omega),getD_app hi]
  ·cases h1
theorem rowsL_mem {x:List Nat}(h:x∈rowsL l p):x.length=p.steps.length+1∧Comb l p (fun i=>x.getD i 0):=by
 unfold rowsL rowsOfP at h;rw [List.mem_flatMap] at h;obtain ⟨r,hr,h1⟩:=h;have hr:=List.mem_range.1 hr;obtain ⟨g1,g2,_⟩:=ext_mem p.steps.length [r] x (by simp) (by rw [List.length_singleton];omega) ⟨fun i hi=>(by
  have e:i=0:=(by rw [List.length_singleton] at hi;omega)
  subst e;exact hr),fun q hq=>(by rw [List.length_singleton] at hq;omega)⟩ h1
 exact ⟨g1,g2⟩
end
end Go.Sx.Sp
namespace Go.Sx.Sp
open Go Go.Sx Go.Proofs
attribute [local irreducible] GoodW famL
end Go.Sx.Sp
