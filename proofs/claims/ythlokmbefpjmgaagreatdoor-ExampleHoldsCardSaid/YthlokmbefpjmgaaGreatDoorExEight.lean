/- Small functions of the document. -/
import Derived.Test.YthlokmbefpjmgaaGreatDoorExSeven
import Derived.Test.YthlokmbefpjmgaaGreatDoorRtFour
import Derived.Test.YthlokmbefpjmgaaGreatDoorSxFive
import Derived.Test.YthlokmbefpjmgaaGreatDoorSxFour
set_option linter.unusedVariables false
set_option linter.unusedSimpArgs false
namespace Go.Sx.Sp
open Go Go.Sx Go.Proofs Go.Sort
attribute [local irreducible] GoodW famL
theorem ref_eq (c d:Rf):([c.t,c.c]=[d.t,d.c])↔c=d:=by
 cases c;cases d;simp
theorem refs_ne {N:NB}{o:Oper}{h:Nat→List Blk}{ρ:Operand→V}{t':Nat}{x y:Operand}(hop:o.op=.binOp .neq 67 x y t') (c d:Rf) (hx:ρ x=.agg c.row) (hy:ρ y=.agg d.row) (hd:dstOK N o.dst=true):GoodW Tryz.prog N o ρ h (.bool (!decide (c=d))) [] []:=by
 have h1:=aggI_good (P:=Tryz.prog) (N:=N) (h:=h) (ρ:=ρ) (op:=.neq) hop (.inr rfl) (by kernel_rfl)
  (fun l l' w a b=>EqI.equal (n:=2) (d:=10000) (eqI_two (d:=9999) (n0:=1) (n1:=1) Tryz.underlying67 (by kernel_rfl) (by kernel_rfl) (by kernel_rfl) rfl rfl Tryz.isAgg67 Tryz.sizeOf67 (eqI_int Tryz.underlying3) (eqI_int Tryz.underlying3)) rfl Tryz.isAgg67 Tryz.sizeOf67 a b w) (l:=[c.t,c.c]) (l':=[d.t,d.c]) rfl rfl hx hy
 have e:decide (c=d)=decide ([c.t,c.c]=[d.t,d.c]):=decide_eq_decide.2 (ref_eq c d).symm;rw [e];exact h1.toW hd
set_option maxHeartbeats 4000000 in
theorem sameRefs_spec (a b:List Rf):Spec Tryz.prog 62 [.sl (rfRows a) false,.sl (rfRows b) false] [] (.bool (decide (a=b))) []:=by
 have hal:=rfRows_len a;have hbl:=rfRows_len b;refine gEn env Tryz.func62 fun Γ hN hK hML=>?_;by_cases hl:a.length=b.length
 ·refine gGo ?_;intros;refine W.loopG (fun n st=>∃ k:Nat,k≤a.length∧a.take k=b.take k∧n=a.length-k∧st=⟨[(1,.sl (rfRows b) false),(12,.sl (rfRows a) false),(13,.int .i64 (rfRows a).length),(14,.int .i64 k)],[],[]⟩)
   a.length _ ⟨0,by omega,rfl,by omega,rfl⟩ gX ?_
  rintro n st ⟨k,hk,he,rfl,rfl⟩;refine gT (fun hb=>?_) fun hb=>?_
  ·have hlt:k<a.length:=by omega
   have hlt2:k<b.length:=by omega
   have hg:=rfRows_get hlt;have hg2:=rfRows_get hlt2;have hx:a[k]≠b[k]→a≠b:=fun h e=>h (by subst e;rfl);have hy:a[k]=b[k]→a.take (k+1)=b.take (k+1):=fun h=>by rw [List.take_succ_eq_append_getElem hlt,List.take_succ_eq_append_getElem hlt2,he,h]
   generalize a[k]=r at *;generalize b[k]=s at *;refine g ?_;refine ⟨_,_,_,refs_ne rfl s r rfl rfl (by kernel_rfl),?_⟩;by_cases e6:s=r
   ·rw [decide_eq_true e6];(conv=>whnf);refine gGo ?_;refine ⟨a.length-(k+1),_,by omega,⟨k+1,by omega,hy e6.symm,rfl,rfl⟩,[],[6],[],LeG.mq .nil⟩
   ·rw [decide_eq_false e6,decide_eq_false (hx fun e=>e6 e.symm)];(conv=>whnf);exact gR
  ·have hk:k=a.length:=by omega
   subst hk;rw [List.take_length,List.take_of_length_le (by omega)] at he;rw [decide_eq_true he];exact gR
 ·rw [decide_eq_false fun h=>hl (by rw [h])];exact gR
def exV (x:Fnd):List V:=[.int .i64 x.p.start,.sl (stpRows x.p.steps) false,.sl [] false,.sl (rfRows x.cs) false]
set_option maxHeartbeats 4000000 in
theorem same34_spec (a b:Fnd):Spec Tryz.prog 26 [.agg (exV a),.agg (exV b)] [] (.bool (decide (a.p=b.p∧a.cs=b.cs))) []:=by
 have s1:=samePath_spec a.p b.p;have s2:=sameRefs_spec a.cs b.cs;by_cases h1:a.p=b.p
 ·rw [decide_eq_true h1] at s1;by_cases h2:a.cs=b.cs
  ·rw [decide_eq_true h2] at s2;rw [decide_eq_true ⟨h1,h2⟩];refine gEn env Tryz.func26 fun Γ hN hK hML=>?_;(refine g ?_;intros);refine W.loopG (fun n st=>n=0∧st=⟨[(32,.int .i64 0),(33,.int .i64 0)],[],[]⟩)
    0 _ ⟨rfl,rfl⟩ gX ?_
   rintro n st ⟨rfl,rfl⟩;exact gR
  ·rw [decide_eq_false h2] at s2;rw [decide_eq_false fun h=>h2 h.2];refine gEn env Tryz.func26 fun Γ hN hK hML=>?_;exact gR
 ·rw [decide_eq_false h1] at s1;rw [decide_eq_false fun h=>h1 h.1];refine gEn env Tryz.func26 fun Γ hN hK hML=>?_;exact gR
theorem fnd_eq (a b:Fnd):a=b↔a.rows=b.rows∧a.p=b.p∧a.cs=b.cs:=by cases a;cases b;simp;constructor<;>intro h<;>simp_all
set_option maxHeartbeats 4000000 in
theorem same35_spec (a b:List Fnd):Spec Tryz.prog 19 [.sl (fndRows a) false,.sl (fndRows b) false] [] (.bool (decide (a=b))) []:=by
 have hal:=fndRows_len a;have hbl:=fndRows_len b;refine gEn env Tryz.func19 fun Γ hN hK hML=>?_;by_cases hl:a.length=b.length
 ·refine gGo ?_;intros;refine W.loopG (fun n st=>∃ k:Nat,k≤a.length∧a.take k=b.take k∧n=a.length-k∧st=⟨[(1,.sl (fndRows b) false),(12,.sl (fndRows a) false),(13,.int .i64 (fndRows a).length),(14,.int .i64 k)],[],[]⟩)
   a.length _ ⟨0,by omega,rfl,by omega,rfl⟩ gX ?_
  rintro n st ⟨k,hk,he,rfl,rfl⟩;refine gT (fun hb=>?_) fun hb=>?_
  ·have hlt:k<a.length:=by omega
   have hlt2:k<b.length:=by omega
   have hg:=fndRows_get hlt;have hg2:=fndRows_get hlt2;have hx:a[k]≠b[k]→a≠b:=fun h e=>h (by subst e;rfl);have hy:a[k]=b[k]→a.take (k+1)=b.take (k+1):=fun h=>by rw [List.take_succ_eq_append_getElem hlt,List.take_succ_eq_append_getElem hlt2,he,h]
   generalize a[k]=r at *;generalize b[k]=s at *;have sp:=same34_spec r s;have hrs:=fnd_eq r s;by_cases h1:r.rows=s.rows
   ·by_cases h2:r.p=s.p∧r.cs=s.cs
    ·rw [decide_eq_true h2] at sp;refine g ?_;exact gZ ⟨k+1,by omega,hy (hrs.2 ⟨h1,h2⟩),rfl,rfl⟩
    ·rw [decide_eq_false h2] at sp;rw [decide_eq_false (hx fun e=>h2 (hrs.1 e).2)];exact gR
   ·rw [decide_eq_false (hx fun e=>h1 (hrs.1 e).1)];exact gR
  ·have hk:k=a.length:=by omega
   subst hk;rw [List.take_length,List.take_of_length_le (by omega)] at he;rw [decide_eq_true he];exact gR
 ·rw [decide_eq_false fun h=>hl (by rw [h])];exact gR
section
attribute [local instance] GQ
end
def WeakC {α:Type}(c:α→α→Int) (l:List α):Prop:=l.Pairwise fun a b=>¬ c b a<0
theorem insC_perm {α:Type}(c:α→α→Int) (l:List α) (x:α):(insC c l x).Perm (x::l):=by
 unfold insC;refine List.perm_middle.trans ?_;rw [List.take_append_drop]
theorem weak_trans {α:Type}{c:α→α→Int}(h:TotC c) {a b d:α}(h1:¬ c b a<0) (h2:¬ c d b<0):¬ c d a<0:=by
 intro h3;rcases h.tri a b with g | g | g
 ·exact h2 (h.trans _ _ _ h3 g)
 ·subst g;exact h2 h3
 ·exact h1 g
theorem insC_weak {α:Type}{c:α→α→Int}(h:TotC c) {l:List α}{x:α}(ha:WeakC c l):WeakC c (insC c l x):=by
 have hhi:=fun j y=>plcC_hi (c:=c) (l:=l) (x:=x) l.length j y;have hlo:=fun i y=>plcC_lo (c:=c) (l:=l) (x:=x) l.length i y;have hle:=plcC_le c l x l.length;unfold insC;generalize hp:plcC c l x l.length=p at *;have hgt:∀ a∈l.take p,¬ c x a<0:=by
  intro a hm;obtain ⟨q,rfl⟩:∃ q,p=q+1:=by
   cases p with
   | zero=>simp at hm
   | succ q=>exact ⟨q,rfl⟩
  have hq:q<l.length:=by omega
  have h1:=hlo q l[q] rfl (List.getElem?_eq_getElem hq);obtain ⟨j,hj⟩:=List.getElem?_of_mem hm;rw [List.getElem?_take] at hj;split at hj
  ·rename_i hjq;have hjl:=(List.getElem?_eq_some_iff.1 hj).1;have hje:=(List.getElem?_eq_some_iff.1 hj).2;by_cases e:j=q
   ·subst e;rw [←hje];exact h1
   ·have:=List.pairwise_iff_getElem.1 ha j q hjl hq (by omega);rw [hje] at this;exact weak_trans h this h1
  ·cases hj
 have hlt:∀ b∈l.drop p,c x b<0:=by
  intro b hm;obtain ⟨j,hj⟩:=List.getElem?_of_mem hm;rw [List.getElem?_drop] at hj;have:=(List.getElem?_eq_some_iff.1 hj).1;exact hhi (p+j) b (by omega) this hj
 have hlt2:∀ b∈l.drop p,¬ c b x<0:=fun b hm g=>h.irr _ (h.trans _ _ _ (hlt b hm) g);unfold WeakC at *;rw [List.pairwise_append];refine ⟨ha.sublist (List.take_sublist _ _),List.pairwise_cons.2 ⟨hlt2,ha.sublist (List.drop_sublist _ _)⟩,fun a hma b hmb=>?_⟩;rcases List.mem_cons.1 hmb with rfl | hmb
 ·exact hgt a hma
 ·exact weak_trans h (hgt a hma) (hlt2 b hmb)
theorem weak_uniq {α:Type}{c:α→α→Int}(h:TotC c) {l m:List α}(hp:l.Perm m) (h1:WeakC c l) (h2:WeakC c m):l=m:=by
 refine hp.eq_of_pairwise (le:=fun a b=>¬ c b a<0) (fun a b _ _ g1 g2=>?_) h1 h2;rcases h.tri a b with g | g | g
 ·exact absurd g g2
 ·exact g
 ·exact absurd g g1
theorem insF_ok {α:Type}{c:α→α→Int}(h:TotC c):∀ (ps Q:List α),WeakC c Q→WeakC c (ps.foldl (insC c) Q)∧(ps.foldl (insC c) Q).Perm (Q++ps)
 | [],Q,hQ=>⟨hQ,by simp⟩
 | p::ps,Q,hQ=>by
  obtain ⟨h1,h2⟩:=insF_ok h ps (insC c Q p) (insC_weak h hQ);refine ⟨h1,h2.trans ?_⟩;refine ((insC_perm c Q p).append_right ps).trans ?_;exact (List.perm_middle (a:=p) (l₁:=Q) (l₂:=ps)).symm
theorem insF_sort {α:Type}{c:α→α→Int}(h:TotC c) (ps:List α):ps.foldl (insC c) []=sortBy c ps:=by
 obtain ⟨h1,h2⟩:=insF_ok h ps [] List.Pairwise.nil;exact weak_uniq h (h2.trans (sortBy_perm c ps).symm) h1 (sortBy_weak h ps)
theorem kept_ok {l:List Table}{p:Pth}{cs:List Rf}(h:validE l p=0) (hn:(rowsL l p).length≤4096) (hc:∀ r∈cs,r∈refsL (tabsM l p)) (hl:cs.length≤3):keptE l ⟨p,[],cs⟩=0:=by
 have h1:validV l ⟨p,[],cs⟩=0:=by
  unfold validV;have h2:cs.any (nhR l p)=false:=by
   rw [List.any_eq_false];intro r hr;unfold nhR;rw [refsL_has h (hc r hr)];decide
  rw [if_pos h,if_pos ⟨by simp,by show cs.length≤64;omega⟩,if_pos ⟨rfl,h2⟩];rfl
 unfold keptE;rw [if_pos h1];unfold planE;rw [if_pos h,if_pos hn]
theorem ans_eval {l:List Table}{p:Pth}{q:Table}{cs:List Rf}(h:keptE l ⟨p,[],cs⟩=0):contB (evalV l ⟨p,[],cs⟩).1 q=contB (shTab l p cs) q∧RectT (evalV l ⟨p,[],cs⟩).1∧rowsN (evalV l ⟨p,[],cs⟩).1≤(rowsL l p).length:=by
 have e:(evalV l ⟨p,[],cs⟩).1=shownT l ⟨p,[],cs⟩:=by unfold evalV;rw [if_pos h]
 rw [e];have hc:=shown_cells l p cs;have hr:rowsN (shownT l ⟨p,[],cs⟩)=rowsN (shTab l p cs):=by
  have key:∀ t:Table,rowsN t=((t.cols.map Column.cells).getD 0 []).length:=fun t=>by
   unfold rowsN;rw [List.getD_eq_getElem?_getD,List.getElem?_map];cases t.cols with
   | nil=>rfl
   | cons a b=>rfl
  rw [key,key,hc]
 refine ⟨contB_shown l p cs q,fun c hcm=>?_,?_⟩
 ·have h1:c.cells∈(shTab l p cs).cols.map Column.cells:=by rw [←hc];exact List.mem_map_of_mem hcm
  obtain ⟨d,hd,he⟩:=List.mem_map.1 h1;rw [hr,←he];exact shTab_rect l p cs d hd
 ·rw [hr];exact shTab_rows l p cs
end Go.Sx.Sp
