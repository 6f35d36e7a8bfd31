/- Answers, as long as they are few. -/
import Derived.Test.YthlokmbefpjmgaaGreatDoorExEight
import Derived.Test.YthlokmbefpjmgaaGreatDoorSxFive
import Derived.Test.YthlokmbefpjmgaaGreatDoorExSeven
import Derived.Test.YthlokmbefpjmgaaGreatDoorSxFour
set_option linter.unusedVariables false
set_option linter.unusedSimpArgs false
namespace Go.Sx.Sp
open Go Go.Sx Go.Proofs Go.Sort
attribute [local irreducible] GoodW famL
def colA:Column:=⟨[],[⟨false,[80,97,114,105,115]⟩,⟨false,[66,111,110,110]⟩]⟩
def tabA:List Table:=[⟨1,[],[colA,colA]⟩]
def qA:Table:=⟨0,[],[⟨[],[⟨false,[80,97,114,105,115]⟩]⟩]⟩
def fA (c:Int):Fnd:=⟨⟨1,[]⟩,[⟨1,c⟩],2⟩
theorem awake_e:exE qA=0:=by decide
theorem awake_l:listB tabA=true:=by decide
theorem awake_p:exPathsM tabA [] 2=([⟨1,[]⟩],0):=by
 have hc:candL tabA [] (2:Int).toNat=[⟨1,[]⟩]:=by decide
 unfold exPathsM;rw [if_pos awake_l,if_pos (by decide),hc,if_pos (by decide),←insF_sort ordC_tot];rfl
theorem awake_a:pathAns tabA qA ⟨1,[]⟩=[fA 0,fA 1]:=by decide
theorem find_awake:findM tabA [] qA 2 9=([fA 0,fA 1],0):=by
 unfold findM;rw [if_pos (by decide),if_pos awake_e,awake_p,if_pos rfl];simp only [List.flatMap_cons,List.flatMap_nil,List.append_nil];rw [awake_a,←insF_sort fndC_tot];rfl
theorem cmpF_sp (a b:Fnd):Spec Tryz.prog 24 [.agg a.row,.agg b.row] [] (.int .i64 (fndC a b)) []:=Spec.ofQuiet (cmpF_spec a b) fun u hu=>by
 simp at hu;rcases hu with rfl | rfl<;>simp [V.sites,sitesL,Fnd.row]
theorem refs_eql {N:NB}{o:Oper}{h:Nat→List Blk}{ρ:Operand→V}{t':Nat}{x y:Operand}(hop:o.op=.binOp .eql 67 x y t') (c d:Rf) (hx:ρ x=.agg c.row) (hy:ρ y=.agg d.row) (hd:dstOK N o.dst=true):GoodW Tryz.prog N o ρ h (.bool (decide (c=d))) [] []:=by
 have h1:=aggI_good (P:=Tryz.prog) (N:=N) (h:=h) (ρ:=ρ) (op:=.eql) hop (.inl rfl) (by kernel_rfl)
  (fun l l' w a b=>EqI.equal (n:=2) (d:=10000) (eqI_two (d:=9999) (n0:=1) (n1:=1) Tryz.underlying67 (by kernel_rfl) (by kernel_rfl) (by kernel_rfl) rfl rfl Tryz.isAgg67 Tryz.sizeOf67 (eqI_int Tryz.underlying3) (eqI_int Tryz.underlying3)) rfl Tryz.isAgg67 Tryz.sizeOf67 a b w) (l:=[c.t,c.c]) (l':=[d.t,d.c]) rfl rfl hx hy
 have e:decide (c=d)=decide ([c.t,c.c]=[d.t,d.c]):=decide_eq_decide.2 (ref_eq c d).symm;rw [e];exact h1.toW hd
set_option maxHeartbeats 4000000 in
theorem awake35_spec:Spec Tryz.prog 8 [] [] (.bool true) []:=by
 have sp:=exFind_spec tabA [] qA 2 9 (listB_small awake_l) (fun r hr=>by cases hr) (by decide);rw [find_awake] at sp;have spC:=cmpF_sp (fA 0) (fA 1);rw [show fndC (fA 0) (fA 1)=-1 by decide] at spC;refine gEn env Tryz.func8 fun Γ hN hK hML=>?_;refine gGo ?_;refine ⟨⟨by decide,by decide,by decide⟩,rowsSz_cons rfl (rowsSz_cons rfl rowsSz_nil),?_⟩;(conv=>whnf);(refine g ?_;intros);refine ⟨_,_,_,refs_eql rfl ⟨1,0⟩ ⟨1,0⟩ rfl rfl (by kernel_rfl),?_⟩;rw [decide_eq_true rfl];(conv=>whnf);exact gR
theorem pathAns_le (l:List Table) (q:Table) (p:Pth):(pathAns l q p).length≤(refsL (tabsM l p)).length ^ q.cols.length:=by
 unfold pathAns;split
 ·unfold ansL;rw [List.length_map,←choicesR_count];exact List.length_filter_le _ _
 ·simp
def ansF (l:List Table) (E:List (List Int)) (q:Table) (k:Nat):List Fnd:=(sortBy ordC (candL l E k)).flatMap (pathAns l q)
theorem ansF_mem {l:List Table}{E:List (List Int)}{q:Table}{k:Nat}{x:Fnd}:x∈ansF l E q k↔∃ p∈candL l E k,x∈pathAns l q p:=by
 unfold ansF;rw [List.mem_flatMap];exact ⟨fun ⟨p,h1,h2⟩=>⟨p,(sortBy_mem ordC).1 h1,h2⟩,fun ⟨p,h1,h2⟩=>⟨p,(sortBy_mem ordC).2 h1,h2⟩⟩
theorem findM_all {l:List Table}{E:List (List Int)}{q:Table}{k N B:Nat}(hl:listB l=true) (hk:k≤4) (hq:exE q=0) (hc:(candL l E k).length≤N) (hB:∀ p∈candL l E k,(refsL (tabsM l p)).length ^ q.cols.length≤B) (hN:N≤1024) (hNB:N*B≤1024) :
  findM l E q (k:Nat) 1024=(sortBy fndC (ansF l E q k),0):=by
 have h1:exPathsM l E (k:Nat)=(sortBy ordC (candL l E k),0):=by
  unfold exPathsM;rw [if_pos hl,if_pos (by omega),Int.toNat_natCast,if_pos (by omega)]
 have h2:(ansF l E q k).length≤1024:=by
  have:=flat_le (pathAns l q) B (sortBy ordC (candL l E k)) fun p hp=>Nat.le_trans (pathAns_le l q p) (hB p ((sortBy_mem ordC).1 hp));rw [sortBy_len] at this;have h3:=Nat.mul_le_mul_right B hc;unfold ansF;omega
 unfold findM;rw [if_pos (by omega),if_pos hq,h1,if_pos rfl];show ((sortBy fndC (ansF l E q k)).take 1024,(0:Int))=_;rw [List.take_of_length_le (by rw [sortBy_len];exact h2)]
theorem listB_ids {l:List Table}(hl:listB l=true):(l.map Table.id).Nodup:=by
 have hasc:ascB l=true:=by unfold listB at hl;rw [Bool.and_eq_true] at hl;exact hl.1
 have hlt:=ascB_lt hasc;rw [List.nodup_iff_pairwise_ne,List.pairwise_map,List.pairwise_iff_getElem];intro i j hi hj hij e;have:=hlt i j hi hj hij;omega
theorem findT_of:∀ {l:List Table},(l.map Table.id).Nodup→∀ {a:Table},a∈l→findT l a.id=some a
 | b::l,h,a,ha=>by
  have h:=List.nodup_cons.1 (show (b.id::l.map Table.id).Nodup from h);unfold findT;rw [List.find?_cons];rcases List.mem_cons.1 ha with rfl | ha
  ·rw [show decide (a.id=a.id)=true from decide_eq_true rfl]
  ·rw [show decide (b.id=a.id)=false from decide_eq_false fun e=>h.1 (e ▸ List.mem_map_of_mem ha)];exact findT_of h.2 ha
theorem tabOf_of {l:List Table}(hl:listB l=true) {a:Table}(ha:a∈l):tabOf l a.id=a:=by
 unfold tabOf;rw [findT_of (listB_ids hl) ha];rfl
theorem routes_0 (l:List Table) (E:List (List Int)) {a b:Int}(h:a<b):routesL l E a b 0=[]:=by
 unfold routesL simL;rw [if_neg (by omega)]
theorem candL_0 (l:List Table) (E:List (List Int)):candL l E 0=l.map fun a=>⟨a.id,[]⟩:=by
 unfold candL;have h:∀ a∈l,candA l E 0 a=[⟨a.id,[]⟩]:=fun a _=>by
  unfold candA;rw [show ((l.filter fun b=>decide (a.id<b.id)).flatMap fun b=>routesL l E a.id b.id 0)=[] from List.flatMap_eq_nil_iff.2 fun b hb=>routes_0 l E (of_decide_eq_true (List.mem_filter.1 hb).2)]
 have g:∀ m:List Table,(∀ a∈m,candA l E 0 a=[⟨a.id,[]⟩])→m.flatMap (candA l E 0)=m.map fun a=>(⟨a.id,[]⟩:Pth):=fun m=>by
  induction m with
  | nil=>intro _;rfl
  | cons a m ih=>intro h;rw [List.flatMap_cons,h a List.mem_cons_self,ih fun b hb=>h b (List.mem_cons_of_mem _ hb)];rfl
 exact g l h
theorem tabs_0 {l:List Table}(hl:listB l=true) {a:Table}(ha:a∈l):tabsM l ⟨a.id,[]⟩=[a]:=by
 unfold tabsM;rw [tabOf_of hl ha];rfl
theorem rows_0 {l:List Table}(hl:listB l=true) {a:Table}(ha:a∈l):rowsL l ⟨a.id,[]⟩=(List.range (rowsN a)).map fun i=>[i]:=by
 have h:tabN l ⟨a.id,[]⟩ 0=a:=tabOf_of hl ha;unfold rowsL rowsOfP;rw [h];have g:∀ n,((List.range n).flatMap fun r=>[[r]])=(List.range n).map fun i=>[i]:=fun n=>by
  induction n with
  | zero=>rfl
  | succ n ih=>rw [List.range_succ,List.flatMap_append,List.map_append,ih];rfl
 exact g _
end Go.Sx.Sp
