/- Small functions of the document. -/
import Derived.Test.YthlokmbefpjmgaaGreatDoorExSeven
import Derived.Test.YthlokmbefpjmgaaGreatDoorRtFour
import Derived.Test.YthlokmbefpjmgaaGreatDoorSxFive
import Derived.Test.YthlokmbefpjmgaaGreatDoorSxFour
set_option linter.unusedVariables false
set_option linter.unusedSimpArgs false
namespace Go.Sx.Sp
open Go Go.Sx Go.Proofs Go.Sort
attribute [local irreducible] GoodW famL
theorem ref_eq (c d:Rf):([c.t,c.c]=[d.t,d.c])↔c=d:=by
 cases c;cases d;simp
section
attribute [local instance] GQ
end
def WeakC {α:Type}(c:α→α→Int) (l:List α):Prop:=l.Pairwise fun a b=>¬ c b a<0
theorem insC_perm {α:Type}(c:α→α→Int) (l:List α) (x:α):(insC c l x).Perm (x::l):=by
 unfold insC;refine List.perm_middle.trans ?_;rw [List.take_append_drop]
theorem weak_trans {α:Type}{c:α→α→Int}(h:TotC c) {a b d:α}(h1:¬ c b a<0) (h2:¬ c d b<0):¬ c d a<0:=by
 intro h3;rcases h.tri a b with g | g | g
 ·exact h2 (h.trans _ _ _ h3 g)
 ·subst g;exact h2 h3
 ·exact h1 g
theorem insC_weak {α:Type}{c:α→α→Int}(h:TotC c) {l:List α}{x:α}(ha:WeakC c l):WeakC c (insC c l x):=by
 have hhi:=fun j y=>plcC_hi (c:=c) (l:=l) (x:=x) l.length j y;have hlo:=fun i y=>plcC_lo (c:=c) (l:=l) (x:=x) l.length i y;have hle:=plcC_le c l x l.length;unfold insC;generalize hp:plcC c l x l.length=p at *;have hgt:∀ a∈l.take p,¬ c x a<0:=by
  intro a hm;obtain ⟨q,rfl⟩:∃ q,p=q+1:=by
   cases p with
   | zero=>simp at hm
   | succ q=>exact ⟨q,rfl⟩
  have hq:q<l.length:=by omega
  have h1:=hlo q l[q] rfl (List.getElem?_eq_getElem hq);obtain ⟨j,hj⟩:=List.getElem?_of_mem hm;rw [List.getElem?_take] at hj;split at hj
  ·rename_i hjq;have hjl:=(List.getElem?_eq_some_iff.1 hj).1;have hje:=(List.getElem?_eq_some_iff.1 hj).2;by_cases e:j=q
   ·subst e;rw [←hje];exact h1
   ·have:=List.pairwise_iff_getElem.1 ha j q hjl hq (by omega);rw [hje] at this;exact weak_trans h this h1
  ·cases hj
 have hlt:∀ b∈l.drop p,c x b<0:=by
  intro b hm;obtain ⟨j,hj⟩:=List.getElem?_of_mem hm;rw [List.getElem?_drop] at hj;have:=(List.getElem?_eq_some_iff.1 hj).1;exact hhi (p+j) b (by omega) this hj
 have hlt2:∀ b∈l.drop p,¬ c b x<0:=fun b hm g=>h.irr _ (h.trans _ _ _ (hlt b hm) g);unfold WeakC at *;rw [List.pairwise_append];refine ⟨ha.sublist (List.take_sublist _ _),List.pairwise_cons.2 ⟨hlt2,ha.sublist (List.drop_sublist _ _)⟩,fun a hma b hmb=>?_⟩;rcases List.mem_cons.1 hmb with rfl | hmb
 ·exact hgt a hma
 ·exact weak_trans h (hgt a hma) (hlt2 b hmb)
theorem weak_uniq {α:Type}{c:α→α→Int}(h:TotC c) {l m:List α}(hp:l.Perm m) (h1:WeakC c l) (h2:WeakC c m):l=m:=by
 refine hp.eq_of_pairwise (le:=fun a b=>¬ c b a<0) (fun a b _ _ g1 g2=>?_) h1 h2;rcases h.tri a b with g | g | g
 ·exact absurd g g2
 ·exact g
 ·exact absurd g g1
theorem insF_ok {α:Type}{c:α→α→Int}(h:TotC c):∀ (ps Q:List α),WeakC c Q→WeakC c (ps.foldl (insC c) Q)∧(ps.foldl (insC c) Q).Perm (Q++ps)
 | [],Q,hQ=>⟨hQ,by simp⟩
 | p::ps,Q,hQ=>by
  obtain ⟨h1,h2⟩:=insF_ok h ps (insC c Q p) (insC_weak h hQ);refine ⟨h1,h2.trans ?_⟩;refine ((insC_perm c Q p).append_right ps).trans ?_;exact (List.perm_middle (a:=p) (l₁:=Q) (l₂:=ps)).symm
theorem insF_sort {α:Type}{c:α→α→Int}(h:TotC c) (ps:List α):ps.foldl (insC c) []=sortBy c ps:=by
 obtain ⟨h1,h2⟩:=insF_ok h ps [] List.Pairwise.nil;exact weak_uniq h (h2.trans (sortBy_perm c ps).symm) h1 (sortBy_weak h ps)
end Go.Sx.Sp
