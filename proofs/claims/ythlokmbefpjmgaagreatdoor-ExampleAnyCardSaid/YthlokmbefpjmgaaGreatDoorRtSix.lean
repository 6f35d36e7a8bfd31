/- Relations as owned slices; routes are valid paths. -/
import Derived.Test.YthlokmbefpjmgaaGreatDoorJSix
import Derived.Test.YthlokmbefpjmgaaGreatDoorSxFive
import Derived.Test.YthlokmbefpjmgaaGreatDoorRtFive
import Derived.Test.YthlokmbefpjmgaaGreatDoorJFour
import Derived.Test.YthlokmbefpjmgaaGreatDoorSxFour
set_option linter.unusedVariables false
set_option linter.unusedSimpArgs false
namespace Go.Sx.Sp
open Go Go.Sx Go.Proofs
attribute [local irreducible] GoodW famL
end Go.Sx.Sp
namespace Go.Sx.Sp
open Go Go.Sx Go.Proofs Go.Sort
attribute [local irreducible] GoodW famL
end Go.Sx.Sp
namespace Go.Sx.Sp
open Go Go.Sx Go.Proofs
attribute [local irreducible] GoodW famL
end Go.Sx.Sp
namespace Go.Sx.Sp
open Go Go.Sx Go.Proofs Go.Sort
attribute [local irreducible] GoodW famL
def atT (p:Pth) (j:Nat):Int:=((p.steps.take j).map Stp.tt).getLastD p.start
theorem atT_mem (p:Pth) (j:Nat):atT p j∈befT p j:=by
 unfold atT befT;generalize (p.steps.take j).map Stp.tt=l;cases l with
 | nil=>exact List.mem_cons_self
 | cons a l=>rw [List.getLastD_eq_getLast?,List.getLast?_eq_some_getLast (by simp)];exact List.mem_cons_of_mem _ (List.getLast_mem _)
theorem simL_chain {W:Int→List Stp}{dst from_:Int}:∀ (k:Nat) (way:List Stp) (at_:Int) (x:Pth),x∈simL W dst from_ k way at_→at_=(way.map Stp.tt).getLastD from_ →
  (x.steps.map Stp.tt).getLastD from_=dst∧∀ (j:Nat) s,x.steps[j]?=some s→way.length≤j→s∈W (atT x j)∧s.tt∉befT x j
 | 0,way,at_,x,hx,ha=>by
  unfold simL at hx;split at hx
  ·rename_i hd;simp only [List.mem_singleton] at hx;subst hx;refine ⟨by rw [←hd,ha],fun j s hj hl=>?_⟩;rw [List.getElem?_eq_none hl] at hj;cases hj
  ·cases hx
 | k+1,way,at_,x,hx,ha=>by
  unfold simL at hx;split at hx
  ·rename_i hd;simp only [List.mem_singleton] at hx;subst hx;refine ⟨by rw [←hd,ha],fun j s hj hl=>?_⟩;rw [List.getElem?_eq_none hl] at hj;cases hj
  ·obtain ⟨s,hs,hx⟩:=List.mem_flatMap.1 hx;split at hx
   ·cases hx
   ·rename_i hns;obtain ⟨h1,⟨r,h2⟩,_⟩:=simL_pre k _ _ x hx;obtain ⟨g1,g2⟩:=simL_chain k _ _ x hx (by rw [List.map_append,List.map_singleton,List.getLastD_concat]);refine ⟨g1,fun j u hj hl=>?_⟩;rcases Nat.lt_or_ge way.length j with h | h
    ·exact g2 j u hj (by rw [List.length_append,List.length_singleton];omega)
    ·have e:j=way.length:=by omega
     subst e;have e1:x.steps.take way.length=way:=by rw [←h2,List.append_assoc,List.take_left]
     have e2:x.steps[way.length]?=some s:=by rw [←h2,List.append_assoc,List.getElem?_append_right (Nat.le_refl _)];simp
     rw [e2] at hj;cases hj;unfold atT befT;rw [e1,h1,←ha];exact ⟨hs,hns⟩
theorem okE_rev {l:List Table}{s:Stp}(h:okE l s=true):(getC l s.ft s.fc).isSome=true∧(getC l s.tt s.tc).isSome=true:=by
 unfold okE at h;simp only [Bool.and_eq_true] at h;exact h.1
theorem wayW_get {l:List Table}{E:List Stp}{t:Int}{x:Stp}(h:x∈wayW l E t):(getC l x.ft x.fc).isSome=true∧(getC l x.tt x.tc).isSome=true:=by
 obtain ⟨s,_,h1,h2⟩:=wayW_mem.1 h;have:=okE_rev h1;rcases h2 with ⟨_,rfl⟩ | ⟨_,rfl⟩
 ·exact this
 ·exact ⟨this.2,this.1⟩
theorem routesL_valid {l:List Table}{E:List (List Int)}{from_ dst:Int}{k:Nat}{x:Pth}(hl:listB l=true) (hf:(findT l from_).isSome=true) (hk:k≤4) (hx:x∈routesL l E from_ dst k) :
  validE l x=0∧x.start=from_∧x.steps.length≤k:=by
 have hx':x∈simL (wayW l (stpsE E)) dst from_ k [] from_:=hx;obtain ⟨h1,_,h3⟩:=simL_pre _ _ _ _ hx';obtain ⟨_,g⟩:=simL_chain _ _ _ _ hx' rfl;simp only [List.length_nil,Nat.zero_add] at h3;refine ⟨?_,h1,h3⟩;unfold validE;rw [if_pos hl,if_pos (by omega),if_pos];refine pathB_true (h1 ▸ hf) fun j hj=>?_;have hj':=List.getElem?_eq_getElem hj;obtain ⟨a,b⟩:=g j _ hj' (Nat.zero_le _);have c:=wayW_get a;have d:=wayW_ft a;unfold stepOK;rw [hj'];simp only [Bool.and_eq_true,Bool.not_eq_true',decide_eq_true_eq,decide_eq_false_iff_not];exact ⟨c.1,c.2,by rw [d];exact atT_mem x j,b⟩
end Go.Sx.Sp
