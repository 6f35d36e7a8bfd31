/- Rows and counts; lists of numbers by texts. -/
import Derived.Test.YthlokmbefpjmgaaGreatDoorJSix
import Derived.Test.YthlokmbefpjmgaaGreatDoorSxFive
import Derived.Test.YthlokmbefpjmgaaGreatDoorJFour
import Derived.Test.YthlokmbefpjmgaaGreatDoorSxFour
set_option linter.unusedVariables false
set_option linter.unusedSimpArgs false
namespace Go.Sx.Sp
open Go Go.Sx Go.Proofs
attribute [local irreducible] GoodW famL
section
variable {l:List Table}{p:Pth}
end
end Go.Sx.Sp
namespace Go.Sx.Sp
open Go Go.Sx Go.Proofs
attribute [local irreducible] GoodW famL
section
variable {l:List Table}{p:Pth}
end
end Go.Sx.Sp
namespace Go.Sx.Sp
open Go Go.Sx Go.Proofs
attribute [local irreducible] GoodW famL
section
variable (l:List Table) (p:Pth)
end
section
variable {l:List Table}{p:Pth}
end
end Go.Sx.Sp
namespace Go.Sx.Sp
open Go Go.Sx Go.Proofs
attribute [local irreducible] GoodW famL
structure KT (T:List (Str×Int)):Prop where
 nd:(keysT T).Nodup
 pos:∀ p∈T,0<p.2
theorem KT.add {T:List (Str×Int)}(h:KT T) (s:Str):KT (addT T s 1):=by
 unfold addT;cases hx:ixS s (keysT T) with
 | none =>
  have hns:=ixS_none.1 hx;have hl:lookT T s=0:=by unfold lookT;rw [hx]
  refine ⟨?_,fun p hp=>?_⟩
  ·simp only [keysT,List.map_append,List.map_cons,List.map_nil];rw [List.nodup_append];refine ⟨h.nd,by simp,fun a ha b hb=>?_⟩;rw [List.mem_singleton.1 hb];intro e;exact hns (e ▸ ha)
  ·rcases List.mem_append.1 hp with hp | hp
   ·exact h.pos p hp
   ·rw [List.mem_singleton.1 hp];show 0<lookT T s+1;omega
 | some j =>
  have hj:=ixS_lt hx;have hl:lookT T s=(T.getD j ([],0)).2:=by unfold lookT;rw [hx]
  have hp0:=h.pos T[j] (List.getElem_mem hj);have hg:T.getD j ([],0)=T[j]:=by rw [List.getD_eq_getElem?_getD,List.getElem?_eq_getElem hj];rfl
  refine ⟨?_,fun p hp=>?_⟩
  ·show (keysT (T.set j (s,lookT T s+1))).Nodup;rw [ixS_set hx];exact h.nd
  ·rcases List.mem_or_eq_of_mem_set hp with hp | hp
   ·exact h.pos p hp
   ·rw [hp];show 0<lookT T s+1;rw [hl,hg];omega
theorem KT.look {T:List (Str×Int)}(h:KT T) {j:Nat}(hj:j<T.length):lookT T T[j].1=T[j].2:=by
 unfold lookT;cases hx:ixS T[j].1 (keysT T) with
 | none=>exact absurd (List.mem_map.2 ⟨_,List.getElem_mem hj,rfl⟩) (ixS_none.1 hx)
 | some i =>
  have hi:=ixS_lt hx;have hk:=ixS_some hx;have hki:(keysT T)[i]'(by simpa [keysT] using hi)=(keysT T)[j]'(by simpa [keysT] using hj):=by
   have:=(List.getElem?_eq_some_iff.1 hk).2;rw [this];simp [keysT]
  have hpw:=List.pairwise_iff_getElem.1 h.nd;have hij:i=j:=by
   rcases Nat.lt_trichotomy i j with e | e | e
   ·exact absurd hki (hpw i j (by simpa [keysT] using hi) (by simpa [keysT] using hj) e)
   ·exact e
   ·exact absurd hki.symm (hpw j i (by simpa [keysT] using hj) (by simpa [keysT] using hi) e)
  subst hij;show (T.getD i ([],0)).2=_;rw [List.getD_eq_getElem?_getD,List.getElem?_eq_getElem hj];rfl
end Go.Sx.Sp
