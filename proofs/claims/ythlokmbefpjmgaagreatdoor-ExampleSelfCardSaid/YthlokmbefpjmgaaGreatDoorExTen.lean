/- The law of rows that are found with their own table. -/
import Derived.Test.YthlokmbefpjmgaaGreatDoorExNine
import Derived.Test.YthlokmbefpjmgaaGreatDoorRtSix
import Derived.Test.YthlokmbefpjmgaaGreatDoorExSeven
import Derived.Test.YthlokmbefpjmgaaGreatDoorSxFive
import Derived.Test.YthlokmbefpjmgaaGreatDoorJFour
import Derived.Test.YthlokmbefpjmgaaGreatDoorSxFour
set_option linter.unusedVariables false
set_option linter.unusedSimpArgs false
namespace Go.Sx.Sp
open Go Go.Sx Go.Proofs Go.Sort
attribute [local irreducible] GoodW famL
def colA:Column:=⟨[],[⟨false,[80,97,114,105,115]⟩,⟨false,[66,111,110,110]⟩]⟩
def tabA:List Table:=[⟨1,[],[colA,colA]⟩]
def qA:Table:=⟨0,[],[⟨[],[⟨false,[80,97,114,105,115]⟩]⟩]⟩
def fA (c:Int):Fnd:=⟨⟨1,[]⟩,[⟨1,c⟩],2⟩
theorem awake_e:exE qA=0:=by decide
theorem awake_l:listB tabA=true:=by decide
theorem awake_p:exPathsM tabA [] 2=([⟨1,[]⟩],0):=by
 have hc:candL tabA [] (2:Int).toNat=[⟨1,[]⟩]:=by decide
 unfold exPathsM;rw [if_pos awake_l,if_pos (by decide),hc,if_pos (by decide),←insF_sort ordC_tot];rfl
theorem awake_a:pathAns tabA qA ⟨1,[]⟩=[fA 0,fA 1]:=by decide
theorem find_awake:findM tabA [] qA 2 9=([fA 0,fA 1],0):=by
 unfold findM;rw [if_pos (by decide),if_pos awake_e,awake_p,if_pos rfl];simp only [List.flatMap_cons,List.flatMap_nil,List.append_nil];rw [awake_a,←insF_sort fndC_tot];rfl
theorem cmpF_sp (a b:Fnd):Spec Tryz.prog 24 [.agg a.row,.agg b.row] [] (.int .i64 (fndC a b)) []:=Spec.ofQuiet (cmpF_spec a b) fun u hu=>by
 simp at hu;rcases hu with rfl | rfl<;>simp [V.sites,sitesL,Fnd.row]
theorem refs_eql {N:NB}{o:Oper}{h:Nat→List Blk}{ρ:Operand→V}{t':Nat}{x y:Operand}(hop:o.op=.binOp .eql 67 x y t') (c d:Rf) (hx:ρ x=.agg c.row) (hy:ρ y=.agg d.row) (hd:dstOK N o.dst=true):GoodW Tryz.prog N o ρ h (.bool (decide (c=d))) [] []:=by
 have h1:=aggI_good (P:=Tryz.prog) (N:=N) (h:=h) (ρ:=ρ) (op:=.eql) hop (.inl rfl) (by kernel_rfl)
  (fun l l' w a b=>EqI.equal (n:=2) (d:=10000) (eqI_two (d:=9999) (n0:=1) (n1:=1) Tryz.underlying67 (by kernel_rfl) (by kernel_rfl) (by kernel_rfl) rfl rfl Tryz.isAgg67 Tryz.sizeOf67 (eqI_int Tryz.underlying3) (eqI_int Tryz.underlying3)) rfl Tryz.isAgg67 Tryz.sizeOf67 a b w) (l:=[c.t,c.c]) (l':=[d.t,d.c]) rfl rfl hx hy
 have e:decide (c=d)=decide ([c.t,c.c]=[d.t,d.c]):=decide_eq_decide.2 (ref_eq c d).symm;rw [e];exact h1.toW hd
set_option maxHeartbeats 4000000 in
theorem awake35_spec:Spec Tryz.prog 8 [] [] (.bool true) []:=by
 have sp:=exFind_spec tabA [] qA 2 9 (listB_small awake_l) (fun r hr=>by cases hr) (by decide);rw [find_awake] at sp;have spC:=cmpF_sp (fA 0) (fA 1);rw [show fndC (fA 0) (fA 1)=-1 by decide] at spC;refine gEn env Tryz.func8 fun Γ hN hK hML=>?_;refine gGo ?_;intros;refine ⟨⟨by decide,by decide,by decide⟩,rowsSz_cons rfl (rowsSz_cons rfl rowsSz_nil),?_⟩;(conv=>whnf);refine gGo ?_;intros;(refine gPC (sp) ?_;conv=>whnf);refine gGo ?_;intros;refine ⟨_,_,_,refs_eql rfl ⟨1,0⟩ ⟨1,0⟩ rfl rfl (by kernel_rfl),?_⟩;rw [decide_eq_true rfl];(conv=>whnf);refine gGo ?_;intros;(refine gPC (spC) ?_;conv=>whnf);refine gGr ?_;intros;exact ret0 rfl rfl rfl
theorem pathAns_le (l:List Table) (q:Table) (p:Pth):(pathAns l q p).length≤(refsL (tabsM l p)).length ^ q.cols.length:=by
 unfold pathAns;split
 ·unfold ansL;rw [List.length_map,←choicesR_count];exact List.length_filter_le _ _
 ·simp
def ansF (l:List Table) (E:List (List Int)) (q:Table) (k:Nat):List Fnd:=(sortBy ordC (candL l E k)).flatMap (pathAns l q)
theorem ansF_mem {l:List Table}{E:List (List Int)}{q:Table}{k:Nat}{x:Fnd}:x∈ansF l E q k↔∃ p∈candL l E k,x∈pathAns l q p:=by
 unfold ansF;rw [List.mem_flatMap];exact ⟨fun ⟨p,h1,h2⟩=>⟨p,(sortBy_mem ordC).1 h1,h2⟩,fun ⟨p,h1,h2⟩=>⟨p,(sortBy_mem ordC).2 h1,h2⟩⟩
theorem findM_all {l:List Table}{E:List (List Int)}{q:Table}{k N B:Nat}(hl:listB l=true) (hk:k≤4) (hq:exE q=0) (hc:(candL l E k).length≤N) (hB:∀ p∈candL l E k,(refsL (tabsM l p)).length ^ q.cols.length≤B) (hN:N≤1024) (hNB:N*B≤1024) :
  findM l E q (k:Nat) 1024=(sortBy fndC (ansF l E q k),0):=by
 have h1:exPathsM l E (k:Nat)=(sortBy ordC (candL l E k),0):=by
  unfold exPathsM;rw [if_pos hl,if_pos (by omega),Int.toNat_natCast,if_pos (by omega)]
 have h2:(ansF l E q k).length≤1024:=by
  have:=flat_le (pathAns l q) B (sortBy ordC (candL l E k)) fun p hp=>Nat.le_trans (pathAns_le l q p) (hB p ((sortBy_mem ordC).1 hp));rw [sortBy_len] at this;have h3:=Nat.mul_le_mul_right B hc;unfold ansF;omega
 unfold findM;rw [if_pos (by omega),if_pos hq,h1,if_pos rfl];show ((sortBy fndC (ansF l E q k)).take 1024,(0:Int))=_;rw [List.take_of_length_le (by rw [sortBy_len];exact h2)]
theorem listB_ids {l:List Table}(hl:listB l=true):(l.map Table.id).Nodup:=by
 have hasc:ascB l=true:=by unfold listB at hl;rw [Bool.and_eq_true] at hl;exact hl.1
 have hlt:=ascB_lt hasc;rw [List.nodup_iff_pairwise_ne,List.pairwise_map,List.pairwise_iff_getElem];intro i j hi hj hij e;have:=hlt i j hi hj hij;omega
theorem findT_of:∀ {l:List Table},(l.map Table.id).Nodup→∀ {a:Table},a∈l→findT l a.id=some a
 | b::l,h,a,ha=>by
  have h:=List.nodup_cons.1 (show (b.id::l.map Table.id).Nodup from h);unfold findT;rw [List.find?_cons];rcases List.mem_cons.1 ha with rfl | ha
  ·rw [show decide (a.id=a.id)=true from decide_eq_true rfl]
  ·rw [show decide (b.id=a.id)=false from decide_eq_false fun e=>h.1 (e ▸ List.mem_map_of_mem ha)];exact findT_of h.2 ha
theorem tabOf_of {l:List Table}(hl:listB l=true) {a:Table}(ha:a∈l):tabOf l a.id=a:=by
 unfold tabOf;rw [findT_of (listB_ids hl) ha];rfl
theorem routes_0 (l:List Table) (E:List (List Int)) {a b:Int}(h:a<b):routesL l E a b 0=[]:=by
 unfold routesL simL;rw [if_neg (by omega)]
theorem candL_0 (l:List Table) (E:List (List Int)):candL l E 0=l.map fun a=>⟨a.id,[]⟩:=by
 unfold candL;have h:∀ a∈l,candA l E 0 a=[⟨a.id,[]⟩]:=fun a _=>by
  unfold candA;rw [show ((l.filter fun b=>decide (a.id<b.id)).flatMap fun b=>routesL l E a.id b.id 0)=[] from List.flatMap_eq_nil_iff.2 fun b hb=>routes_0 l E (of_decide_eq_true (List.mem_filter.1 hb).2)]
 have g:∀ m:List Table,(∀ a∈m,candA l E 0 a=[⟨a.id,[]⟩])→m.flatMap (candA l E 0)=m.map fun a=>(⟨a.id,[]⟩:Pth):=fun m=>by
  induction m with
  | nil=>intro _;rfl
  | cons a m ih=>intro h;rw [List.flatMap_cons,h a List.mem_cons_self,ih fun b hb=>h b (List.mem_cons_of_mem _ hb)];rfl
 exact g l h
theorem tabs_0 {l:List Table}(hl:listB l=true) {a:Table}(ha:a∈l):tabsM l ⟨a.id,[]⟩=[a]:=by
 unfold tabsM;rw [tabOf_of hl ha];rfl
theorem rows_0 {l:List Table}(hl:listB l=true) {a:Table}(ha:a∈l):rowsL l ⟨a.id,[]⟩=(List.range (rowsN a)).map fun i=>[i]:=by
 have h:tabN l ⟨a.id,[]⟩ 0=a:=tabOf_of hl ha;unfold rowsL rowsOfP;rw [h];have g:∀ n,((List.range n).flatMap fun r=>[[r]])=(List.range n).map fun i=>[i]:=fun n=>by
  induction n with
  | zero=>rfl
  | succ n ih=>rw [List.range_succ,List.flatMap_append,List.map_append,ih];rfl
 exact g _
theorem cells_0 {l:List Table}(hl:listB l=true) {a:Table}(ha:a∈l) {i:Nat}(hi:i<a.cols.length):cellsR l ⟨a.id,[]⟩ ⟨a.id,(i:Int)⟩=a.cols[i].cells:=by
 have hc:colC l ⟨a.id,(i:Int)⟩=a.cols[i]:=by
  unfold colC getC;rw [findT_of (listB_ids hl) ha];show ((if 0≤(i:Int)∧(i:Int)<(a.cols.length:Int) then a.cols[(i:Int).toNat]? else none).getD Column.zero)=_;rw [if_pos (by omega),Int.toNat_natCast,List.getElem?_eq_getElem hi];rfl
 have hv:validB a=true:=by
  unfold listB at hl;simp only [Bool.and_eq_true] at hl;exact List.all_eq_true.1 hl.2.2 a ha
 have hlen:=(validB_rows hv).2 _ (List.getElem_mem hi);unfold cellsR;rw [rows_0 hl ha,List.map_map];refine List.ext_getElem (by rw [List.length_map,List.length_range,hlen]) fun n h1 h2=>?_;rw [List.getElem_map,List.getElem_range];show cellV l ⟨a.id,[]⟩ ⟨a.id,(i:Int)⟩ [n]=_;unfold cellV;rw [hc];have hp:plcI ⟨a.id,[]⟩ a.id=0:=by
  unfold plcI placeI tabsI befT;simp [ixI]
 show a.cols[i].cells.getD ([n].getD (plcI ⟨a.id,[]⟩ a.id) 0) cell0=_;rw [hp];show a.cols[i].cells.getD n cell0=_;rw [List.getD_eq_getElem?_getD,List.getElem?_eq_getElem h2];rfl
theorem choicesR_of {α:Type}(R:List α):∀ (c:List α),(∀ r∈c,r∈R)→c∈choicesR R c.length:=by
 intro c;rw [choicesR_prod]
 induction c with
 | nil=>intro _;exact List.mem_singleton.2 rfl
 | cons x c ih =>
  intro h;show x::c∈R.flatMap fun x=>(prodL (List.replicate c.length R)).map (x::·);rw [List.mem_flatMap];exact ⟨x,h x List.mem_cons_self,List.mem_map_of_mem (ih fun r hr=>h r (List.mem_cons_of_mem _ hr))⟩
theorem fitC_refl {x:Cell}(h:x.null=false):fitC x x=true:=by
 unfold fitC;rw [h,decide_eq_true rfl];rfl
def cellsA (a:Table) (r:Rf):List Cell:=(a.cols.getD r.c.toNat ⟨[],[]⟩).cells
def qS (a:Table) (R:List Rf) (n:Nat):Table:=⟨0,[],R.map fun r=>⟨[],(cellsA a r).take n⟩⟩
theorem cellsA_of {l:List Table}(hl:listB l=true) {a:Table}(ha:a∈l) {n:Nat}(hn:n≤a.cols.length) {r:Rf}(hr:r∈refsT a n):cellsR l ⟨a.id,[]⟩ r=cellsA a r∧(cellsA a r).length=rowsN a∧∃ c∈a.cols,cellsA a r=c.cells:=by
 obtain ⟨h1,i,hi,h2⟩:=refsT_mem hr;have hil:i<a.cols.length:=by omega
 have e:r=⟨a.id,(i:Int)⟩:=by cases r;simp_all
 have hv:validB a=true:=by
  unfold listB at hl;simp only [Bool.and_eq_true] at hl;exact List.all_eq_true.1 hl.2.2 a ha
 have hc:cellsA a r=a.cols[i].cells:=by
  unfold cellsA;rw [h2,Int.toNat_natCast,List.getD_eq_getElem?_getD,List.getElem?_eq_getElem hil];rfl
 rw [hc];exact ⟨by rw [e];exact cells_0 hl ha hil,(validB_rows hv).2 _ (List.getElem_mem hil),_,List.getElem_mem hil,rfl⟩
theorem cellT_map {α:Type}(id:Int) (nm:Str) (R:List α) (f:α→List Cell) {c:Nat}(hc:c<R.length) (k:Nat):cellT ⟨id,nm,R.map fun r=>⟨[],f r⟩⟩ c k=(f R[c]).getD k ⟨false,[]⟩:=by
 unfold cellT;rw [List.getD_eq_getElem?_getD (l:=R.map _),List.getElem?_map,List.getElem?_eq_getElem hc];rfl
theorem rowsN_map {α:Type}(id:Int) (nm:Str) (R:List α) (f:α→List Cell) (h0:R≠[]) {n:Nat}(h:∀ r∈R,(f r).length=n):rowsN ⟨id,nm,R.map fun r=>⟨[],f r⟩⟩=n:=by
 unfold rowsN;cases R with
 | nil=>exact absurd rfl h0
 | cons r R=>exact h r List.mem_cons_self
theorem self_valid {l:List Table}(hl:listB l=true) {a:Table}(ha:a∈l) {R:List Rf}(hR:R=refsT a a.cols.length) (h0:R≠[]) {n:Nat}(hn:n≤rowsN a) (hc:a.cols.length≤3):exE (qS a R n)=0∧rowsN (qS a R n)=n:=by
 have hv:validB a=true:=by
  unfold listB at hl;simp only [Bool.and_eq_true] at hl;exact List.all_eq_true.1 hl.2.2 a ha
 obtain ⟨v1,v2⟩:=validB_rows hv;have hlen:∀ r∈R,((cellsA a r).take n).length=n:=fun r hr=>by
  rw [hR] at hr;rw [List.length_take,(cellsA_of hl ha (Nat.le_refl _) hr).2.1];omega
 have hrn:rowsN (qS a R n)=n:=rowsN_map 0 [] R (fun r=>(cellsA a r).take n) h0 hlen;have hRl:R.length≤a.cols.length:=by rw [hR];exact refsT_len a _
 have hcl:(qS a R n).cols.length=R.length:=by simp [qS]
 have hpos:=List.length_pos_iff.2 h0;refine ⟨?_,hrn⟩;unfold exE;have hval:validB (qS a R n)=true:=by
  unfold validB;have h1:headB (qS a R n)=true:=by
   unfold headB;rw [hrn,hcl,decide_eq_true (show n≤4096 by omega),decide_eq_true (show R.length≤64 by omega)];show (decide ((0:Int)≤0∧(0:Int)≤1073741824)&&fineB []&&true&&true)=true;decide +kernel
  have h2:(qS a R n).cols.any (badCol (qS a R n))=false:=by
   rw [List.any_eq_false];intro c hcm;obtain ⟨r,hr,rfl⟩:=List.mem_map.1 hcm;unfold badCol;rw [hrn];have b3:fineB []=true:=by decide +kernel
   have hrr:=hr;rw [hR] at hrr;obtain ⟨_,_,c,hca,hcc⟩:=cellsA_of hl ha (Nat.le_refl _) hrr;have b4:c.cells.all cellB=true:=by
    unfold validB at hv;rw [Bool.and_eq_true] at hv;have:=hv.2;rw [Bool.not_eq_true',List.any_eq_false] at this;have:=this c hca;unfold badCol at this;simp only [Bool.or_eq_true,not_or,Bool.not_eq_true',Bool.not_eq_false] at this;simpa using this.2
   have b5:((cellsA a r).take n).all cellB=true:=by
    rw [hcc,List.all_eq_true];exact fun x hx=>List.all_eq_true.1 b4 x (List.mem_of_mem_take hx)
   show (!fineB []||decide (((cellsA a r).take n).length≠n)||!((cellsA a r).take n).all cellB)≠true;rw [b3,b5,decide_eq_false (fun h=>h (hlen r hr))];decide
  rw [h1,h2];rfl
 rw [if_pos hval,hcl,if_neg (by omega)]
theorem self_cont {l:List Table}(hl:listB l=true) {a:Table}(ha:a∈l) {R:List Rf}(hR:R=refsT a a.cols.length) (h0:R≠[]) {n:Nat}(hn:n≤rowsN a) (hrq:rowsN (qS a R n)=n):contB (shTab l ⟨a.id,[]⟩ R) (qS a R n)=true:=by
 have hcA:∀ r∈R,cellsR l ⟨a.id,[]⟩ r=cellsA a r∧(cellsA a r).length=rowsN a:=fun r hr=>by
  rw [hR] at hr;obtain ⟨h1,h2,_⟩:=cellsA_of hl ha (Nat.le_refl _) hr;exact ⟨h1,h2⟩
 have hsh:shTab l ⟨a.id,[]⟩ R=⟨0,[],R.map fun r=>⟨[],cellsA a r⟩⟩:=by
  unfold shTab;rw [List.map_congr_left fun r hr=>by rw [(hcA r hr).1]]
 rw [hsh];have hrs:rowsN ⟨0,[],R.map fun r=>⟨[],cellsA a r⟩⟩=rowsN a:=rowsN_map 0 [] R (fun r=>cellsA a r) h0 fun r hr=>(hcA r hr).2;unfold contB;rw [hrq,hrs,Bool.and_eq_true];refine ⟨decide_eq_true (by simp [qS]),?_⟩;rw [List.all_eq_true];intro k hk;have hk:=List.mem_range.1 hk;unfold anyB;rw [List.any_eq_true];refine ⟨k,List.mem_range.2 (by omega),?_⟩;unfold agB;rw [List.all_eq_true];intro c hc;have hc:c<R.length:=by have:=List.mem_range.1 hc;simpa [qS] using this
 have e1:cellT (qS a R n) c k=(cellsA a R[c]).getD k ⟨false,[]⟩:=by
  unfold qS;rw [cellT_map 0 [] R (fun r=>(cellsA a r).take n) hc k,List.getD_eq_getElem?_getD,List.getElem?_take_of_lt hk,←List.getD_eq_getElem?_getD]
 rw [e1,cellT_map 0 [] R (fun r=>cellsA a r) hc k];generalize (cellsA a R[c]).getD k ⟨false,[]⟩=x;cases hx:x.null with
 | true=>rfl
 | false=>rw [fitC_refl hx];rfl
theorem self_found {l:List Table}(hl:listB l=true) {a:Table}(ha:a∈l) {R:List Rf}(hR:R=refsT a a.cols.length) (h0:R≠[]) {n:Nat}(hn:n≤rowsN a) (hsz:l.length≤3) (hc:∀ b∈l,b.cols.length≤2) :
  ∃ S,findM l [] (qS a R n) 0 1024=(S,0)∧(⟨⟨a.id,[]⟩,R,(rowsN a:Nat)⟩:Fnd)∈S:=by
 have hca:=hc a ha;obtain ⟨hE,hrq⟩:=self_valid hl ha hR h0 hn (by omega);have hRl:R.length≤2:=by rw [hR];exact Nat.le_trans (refsT_len a _) hca
 have hql:(qS a R n).cols.length=R.length:=by simp [qS]
 have hB:∀ p∈candL l [] 0,(refsL (tabsM l p)).length ^ (qS a R n).cols.length≤4:=fun p hp=>by
  rw [candL_0] at hp;obtain ⟨b,hb,rfl⟩:=List.mem_map.1 hp;rw [tabs_0 hl hb,hql];have h1:(refsL [b]).length≤2:=by
   unfold refsL;rw [List.flatMap_cons,List.flatMap_nil,List.append_nil];exact Nat.le_trans (refsT_len b _) (hc b hb)
  exact Nat.le_trans (Nat.pow_le_pow_left h1 _) (Nat.pow_le_pow_right (by omega) hRl)
 refine ⟨_,findM_all (N:=3) (B:=4) (k:=0) hl (by omega) hE (by rw [candL_0,List.length_map];exact hsz) hB (by omega) (by omega),?_⟩;have hv:validB a=true:=by
  unfold listB at hl;simp only [Bool.and_eq_true] at hl;exact List.all_eq_true.1 hl.2.2 a ha
 have hrl:(rowsL l ⟨a.id,[]⟩).length=rowsN a:=by rw [rows_0 hl ha,List.length_map,List.length_range]
 rw [sortBy_mem,ansF_mem];refine ⟨⟨a.id,[]⟩,by rw [candL_0];exact List.mem_map_of_mem ha,?_⟩;unfold pathAns;rw [if_pos (by have:=(validB_rows hv).1;omega)];unfold ansL;refine List.mem_map.2 ⟨R,List.mem_filter.2 ⟨?_,?_⟩,by unfold mkF;rw [hrl]⟩
 ·rw [hql,tabs_0 hl ha];refine choicesR_of _ R fun r hr=>?_;unfold refsL;rw [List.flatMap_cons,List.flatMap_nil,List.append_nil,←hR];exact hr
 ·unfold ansB;rw [self_cont hl ha hR h0 hn hrq];rfl
def CutS (a:Table) (R:List Rf) (qs:List Column):Prop:=qs.length=R.length∧∀ (k:Nat) (c:Column) (r:Rf),qs[k]?=some c→R[k]?=some r→∃ m,1≤m∧m≤rowsN a∧c=⟨[],(cellsA a r).take m⟩
theorem cut_snoc {a:Table}{R:List Rf}{qs:List Column}(h:CutS a R qs) {r:Rf}{m:Nat}(h1:1≤m) (h2:m≤rowsN a):CutS a (R++[r]) (qs++[⟨[],(cellsA a r).take m⟩]):=by
 obtain ⟨g1,g2⟩:=h;refine ⟨by simp [g1],fun k c s hc hs=>?_⟩;by_cases e:k<qs.length
 ·rw [List.getElem?_append_left e] at hc;rw [List.getElem?_append_left (by omega)] at hs;exact g2 k c s hc hs
 ·rw [List.getElem?_append_right (by omega),List.getElem?_singleton] at hc;rw [List.getElem?_append_right (by omega),List.getElem?_singleton] at hs;split at hc
  ·split at hs
   ·cases hc;cases hs;exact ⟨m,h1,h2,rfl⟩
   ·cases hs
  ·cases hc
def CutN (a:Table) (R:List Rf) (n i:Nat) (qs qs':List Column):Prop:=qs'.length=R.length∧∀ (k:Nat) (c:Column) (r:Rf),qs'[k]?=some c→R[k]?=some r→if k<i then c=⟨[],(cellsA a r).take n⟩ else qs[k]?=some c
theorem cutN_step {a:Table}{R:List Rf}{n i:Nat}{qs qs':List Column}(h:CutN a R n i qs qs') {r:Rf}(hr:R[i]?=some r):CutN a R n (i+1) qs (qs'.set i ⟨[],(cellsA a r).take n⟩):=by
 obtain ⟨g1,g2⟩:=h;refine ⟨by simp [g1],fun k c s hc hs=>?_⟩;rw [List.getElem?_set] at hc;by_cases e:i=k
 ·subst e;rw [if_pos (by omega)];rw [if_pos rfl] at hc;split at hc
  ·cases hc;rw [hr] at hs;cases hs;rfl
  ·cases hc
 ·rw [if_neg e] at hc;have:=g2 k c s hc hs;by_cases e2:k<i
  ·rw [if_pos e2] at this;rw [if_pos (by omega)];exact this
  ·rw [if_neg e2] at this;rw [if_neg (by omega)];exact this
theorem cutN_all {a:Table}{R:List Rf}{n:Nat}{qs qs':List Column}(h:CutN a R n R.length qs qs'):(⟨0,[],qs'⟩:Table)=qS a R n:=by
 obtain ⟨g1,g2⟩:=h;unfold qS;congr 1;refine List.ext_getElem (by simp [g1]) fun k h1 h2=>?_;have hk:k<R.length:=by omega
 have:=g2 k qs'[k] R[k] (List.getElem?_eq_getElem h1) (List.getElem?_eq_getElem hk);rw [if_pos hk] at this;rw [this,List.getElem_map]
def isS (a:Table) (R:List Rf) (y:Fnd):Bool:=decide (y.p=⟨a.id,[]⟩∧y.cs=R)&&decide (y.rows=(rowsN a:Nat))
set_option maxHeartbeats 16000000 in
theorem exSelf_law (t:List Int):Spec Tryz.prog 5 [.sl (intRows .i64 t) false] [] (.bool true) []:=by
 have hl:=intRows_len .i64 t;have spL:=light_spec t;have spA:=awake35_spec;by_cases hll:t.length≤500
 ·rw [decide_eq_true hll] at spL;obtain ⟨⟨j1,j2⟩,j3,j4⟩:=joined_ok (l:=t) (most:=3) (p:=0) (by omega) (Nat.zero_le _);have spJ:=joined_spec t 3 0 (by omega) (Nat.zero_le _);generalize (joinedF t 3 0).1=L at *;generalize (joinedF t 3 0).2=p at *;have j2:L.length≤3:=j2;have hlist:=listB_J j3 (by omega);have hsm:=listB_small hlist;have hLl:=tblRows_len L;have hp1:=nextP_le j4;have spD:=next_spec t p (L.length:Nat) (by omega) j4;have rD:=nextV_range t p (n:=(L.length:Nat)) (by omega);obtain ⟨N,hN0⟩:=Int.eq_ofNat_of_zero_le rD.1;rw [hN0] at spD rD;rw [←hLl] at spD;have hNl:N<L.length:=by omega
  have hmem:=List.getElem_mem hNl;have hag:=tblRows_get hNl;have hJa:=j3 N hNl;generalize L[N]=a at *;have hfew:∀ b∈L,b.cols.length≤2:=fun b hb=>by
   obtain ⟨k,hk,rfl⟩:=List.getElem_of_mem hb;exact (j3 k hk).few.2
  have hrect:∀ c∈a.cols,c.cells.length=rowsN a:=by
   have hv:validB a=true:=by
    unfold listB at hlist;simp only [Bool.and_eq_true] at hlist;exact List.all_eq_true.1 hlist.2.2 a hmem
   exact (validB_rows hv).2
  have hrow1:1≤rowsN a∧rowsN a≤5:=by
   obtain ⟨n,n1,n2,n3⟩:=hJa.cols;obtain ⟨c,hc⟩:∃ c,c∈a.cols:=by
    cases h:a.cols with
    | nil=>have:=hJa.few.1;rw [h] at this;simp at this
    | cons c cs=>exact ⟨c,List.mem_cons_self⟩
   have:=(n3 c hc).len;have:=hrect c hc;omega
  have hcl:=colRows_len a.cols;have ha2:=hJa.few.2;have hself:=fun (R:List Rf) (hR:R=refsT a a.cols.length) (h0:R≠[]) (n:Nat) (hn:n≤rowsN a)=>self_found hlist hmem hR h0 hn j2 hfew;generalize nextP t p=p1 at *;clear j3 hN0 hJa;refine gEn env Tryz.func5 fun Γ hN hK hML=>?_;(refine g ?_;intros);(refine gCA [] [(5,70)] [] (roll_spec t) ?_;conv=>whnf);(refine g ?_;intros);(refine gCA [(0,70)] [] [] (spJ) ?_;conv=>whnf);(refine g ?_;intros);(refine ⟨_,_,_,callG [(0,70)] [] [] rfl rfl rfl (by kernel_rfl) (spD) (by repeat' (first | exact trivial | exact Lent.refl _ | exact Lent.norm _ | exact Lent.whole rfl rfl (by first | rfl | exact List.length_append.symm | exact hlenR | simp) rfl (by first | exact .inl rfl | exact .inr rfl) | apply And.intro)) rfl ⟨rfl,rfl,rfl,rfl,rfl,by repeat' (first | exact trivial | rfl | apply And.intro),rfl,rfl⟩,?_⟩;conv=>whnf);(refine g ?_;intros);refine W.ownCell 6 0 2 91 2 rfl rfl rfl rfl rfl ?_;refine W.ownCell 7 0 3 92 2 rfl rfl rfl rfl rfl ?_;clear spJ spD j4 spL;refine W.loopR (fun m st=>∃ (j p:Nat) (R:List Rf) (qs:List Column),j≤a.cols.length∧p≤t.length∧R=refsT a j∧CutS a R qs∧m=a.cols.length-j∧st=⟨[(3,.bp 70 0),(4,.sl (tblRows L) false),(5,.bp 5 0),(6,.bp 6 0),(7,.bp 7 0),(42,.sl (colRows a.cols) false),(43,.int .i64 (colRows a.cols).length),(44,.int .i64 (j:Nat))],[(70,[diceB t p]),(5,[.rows 3 [a.row] none]),(6,[.rows 3 [[.int .i64 0,.str [],.osl 91 0 0 (colRows qs).length (colRows qs).length]] none]),(7,[.rows 4 [[.int .i64 a.id,.nils,.nils,.osl 92 0 0 (rfRows R).length (rfRows R).length]] none]),(91,[.rows 2 (colRows qs) (some [])]),(92,[.rows 2 (rfRows R) (some [])])],[70,5,6,7,91,92]⟩)
   a.cols.length _ ⟨0,p1,[],[],by omega,hp1,rfl,⟨rfl,fun k c r h=>by cases h⟩,by omega,rfl⟩ (Ref.le (mp:=[(70,70),(5,5),(6,6),(7,7),(91,91),(92,92)]) (bo:=[]) (gs:=[]) (LeG.mq (.ci 70 (.ci 5 (.ci 6 (.ci 7 (.ci 91 (.ci 92 .nil)))))))) ?_
  clear hp1 p1 p;rintro m st ⟨j,p,R,qs,hj,hp,hR,hcut,rfl,rfl⟩;have hql:=colRows_len qs;have hRl:=rfRows_len R;have hRn:R.length≤2:=by rw [hR];exact Nat.le_trans (refsT_len a j) (by omega)
  have hqn:=hcut.1;refine gS (fun hb=>?_) fun hb=>?_
  ·have hjl:j<a.cols.length:=by omega
   have hcg:=colRows_get hjl;have hst:=refsT_succ a j;have hgd:a.cols.getD j ⟨[],[]⟩=a.cols[j]:=by simp [List.getD_eq_getElem?_getD,hjl]
   rw [hgd] at hst;have hcA:cellsA a ⟨a.id,(j:Int)⟩=a.cols[j].cells:=by
    unfold cellsA;rw [Int.toNat_natCast,hgd]
   have hcr:=hrect _ (List.getElem_mem hjl);generalize a.cols[j]=c at *;have hll:=cellRows_len c.cells;have hqg:=hcg;(refine g ?_;intros);refine W.loopR (fun m st=>∃ (i:Nat) (b:Bool),i≤c.cells.length∧(b||(c.cells.drop i).any fun x=>!x.null)=fullC c∧m=c.cells.length-i∧st=⟨[(3,.bp 70 0),(4,.sl (tblRows L) false),(5,.bp 5 0),(6,.bp 6 0),(7,.bp 7 0),(42,.sl (colRows a.cols) false),(43,.int .i64 (colRows a.cols).length),(44,.int .i64 (j:Nat)),(8,.int .i64 (j:Nat)),(9,.bp 9 0),(10,.bool b),(50,.sl (cellRows c.cells) false),(51,.int .i64 (cellRows c.cells).length),(52,.int .i64 (i:Nat))],[(70,[diceB t p]),(5,[.rows 3 [a.row] none]),(6,[.rows 3 [[.int .i64 0,.str [],.osl 91 0 0 (colRows qs).length (colRows qs).length]] none]),(7,[.rows 4 [[.int .i64 a.id,.nils,.nils,.osl 92 0 0 (rfRows R).length (rfRows R).length]] none]),(91,[.rows 2 (colRows qs) (some [])]),(92,[.rows 2 (rfRows R) (some [])]),(9,[.rows 2 [c.row] none])],[70,5,6,7,91,92,9]⟩)
    c.cells.length _ ⟨0,false,by omega,rfl,by omega,rfl⟩ (Ref.le (mp:=[(70,70),(5,5),(6,6),(7,7),(91,91),(92,92),(9,9)]) (bo:=[]) (gs:=[]) (LeG.mq (.ci 70 (.ci 5 (.ci 6 (.ci 7 (.ci 91 (.ci 92 (.ci 9 .nil))))))))) ?_
   rintro m st ⟨i,b,hi,hbb,rfl,rfl⟩;refine gS (fun hb=>?_) fun hb=>?_
   ·have hil:i<c.cells.length:=by omega
    have hxg:=cellRows_get hil;rw [List.drop_eq_getElem_cons hil,List.any_cons] at hbb;generalize c.cells[i]=x at *;obtain ⟨xn,xt⟩:=x;cases b with
    | true =>
     (refine g ?_;intros);refine ⟨_,_,?_,⟨i+1,true,by omega,by rw [Bool.true_or] at hbb ⊢;exact hbb,rfl,rfl⟩,(Ref.le (mp:=[(70,70),(5,5),(6,6),(7,7),(91,91),(92,92),(9,9)]) (bo:=[]) (gs:=[]) (LeG.mq (.ci 70 (.ci 5 (.ci 6 (.ci 7 (.ci 91 (.ci 92 (.ci 9 .nil)))))))))⟩;omega
    | false =>
     (refine g ?_;intros);refine ⟨_,_,?_,⟨i+1,!xn,by omega,by rw [Bool.false_or] at hbb;exact hbb,rfl,rfl⟩,(Ref.le (mp:=[(70,70),(5,5),(6,6),(7,7),(91,91),(92,92),(9,9)]) (bo:=[]) (gs:=[]) (LeG.mq (.ci 70 (.ci 5 (.ci 6 (.ci 7 (.ci 91 (.ci 92 (.ci 9 .nil)))))))))⟩;omega
   ·have hie:i=c.cells.length:=by omega
    subst hie;rw [List.drop_length,List.any_nil,Bool.or_false] at hbb;rw [←hbb] at hst;cases b with
    | true =>
     rw [if_pos rfl] at hst;have spN:=next_spec t p (c.cells.length:Nat) (by omega) hp;have rN:=nextV_range t p (n:=(c.cells.length:Nat)) (by omega);have hp2:=nextP_le hp;obtain ⟨M,hM⟩:=Int.eq_ofNat_of_zero_le rN.1;rw [hM] at spN rN;rw [←hll] at spN;generalize nextP t p=p2 at *;have hcut2:=cut_snoc hcut (r:=⟨a.id,(j:Int)⟩) (m:=1+M) (by omega) (by omega);rw [hcA] at hcut2;have hrow:Column.row ⟨[],c.cells.take (1+M)⟩=[.str [],.sl ((cellRows c.cells).take (1+M)) false]:=by unfold Column.row cellRows;rw [List.map_take]
     have htk:(1+(M:Int)).toNat=1+M:=by omega
     (refine g ?_;intros);(refine ⟨_,_,_,callG [(0,70)] [] [] rfl rfl rfl (by kernel_rfl) (spN) (by repeat' (first | exact trivial | exact Lent.refl _ | exact Lent.norm _ | exact Lent.whole rfl rfl (by first | rfl | exact List.length_append.symm | exact hlenR | simp) rfl (by first | exact .inl rfl | exact .inr rfl) | apply And.intro)) rfl ⟨rfl,rfl,rfl,rfl,rfl,by repeat' (first | exact trivial | rfl | apply And.intro),rfl,rfl⟩,?_⟩;conv=>whnf);(refine g ?_;intros);refine ⟨cellRows_sz _,?_⟩;(conv=>whnf);(refine g ?_;intros);refine ⟨⟨rowsSz_cons rfl rowsSz_nil,rfl⟩,fitsN (n:=(colRows qs).length+1) (b:=40) (by omega) (by omega),.inl ⟨rfl,rfl,?_⟩⟩;(conv=>whnf);(refine g ?_;intros);refine ⟨⟨rowsSz_cons rfl rowsSz_nil,rfl⟩,fitsN (n:=(rfRows R).length+1) (b:=16) (by omega) (by omega),.inl ⟨rfl,rfl,?_⟩⟩;(conv=>whnf);(refine g ?_;intros);refine ⟨_,_,?_,⟨j+1,p2,R++[⟨a.id,(j:Int)⟩],qs++[⟨[],c.cells.take (1+M)⟩],by omega,hp2,by rw [hst,hR],hcut2,rfl,rfl⟩,?_⟩
     ·omega
     ·rw [colRows_snoc,rfRows_snoc,hrow,←htk,List.length_append,List.length_append];exact (Ref.le (mp:=[(70,70),(5,5),(6,6),(7,7),(91,91),(92,92)]) (bo:=[]) (gs:=[]) (LeG.mq (.ci 70 (.ci 5 (.ci 6 (.ci 7 (.ci 91 (.ci 92 .nil))))))))
    | false =>
     rw [if_neg (by decide)] at hst;(refine g ?_;intros);refine ⟨_,_,?_,⟨j+1,p,R,qs,by omega,hp,by rw [hst,hR],hcut,rfl,rfl⟩,(Ref.le (mp:=[(70,70),(5,5),(6,6),(7,7),(91,91),(92,92)]) (bo:=[]) (gs:=[]) (LeG.mq (.ci 70 (.ci 5 (.ci 6 (.ci 7 (.ci 91 (.ci 92 .nil))))))))⟩;omega
  ·have hje:j=a.cols.length:=by omega
   subst hje;by_cases h0:R=[]
   ·have hq0:qs.length=0:=by rw [hqn,h0];rfl
    exact gR
   ·have hpos:=List.length_pos_iff.2 h0;obtain ⟨c0,hc0⟩:∃ c,qs[0]?=some c:=⟨qs[0],List.getElem?_eq_getElem (by omega)⟩
    have hc0g:(colRows qs)[0]?=some c0.row:=by unfold colRows;rw [List.getElem?_map,hc0];rfl
    have hrA:∀ r∈R,(cellsA a r).length=rowsN a:=fun r hr=>by
     rw [hR] at hr;exact (cellsA_of hlist hmem (Nat.le_refl _) hr).2.1
    have hlenq:∀ (k:Nat) (c:Column),qs[k]?=some c→1≤c.cells.length∧c.cells.length≤rowsN a:=fun k c hc=>by
     have hk:=(List.getElem?_eq_some_iff.1 hc).1;have hkR:k<R.length:=by omega
     obtain ⟨m,m1,m2,m3⟩:=hcut.2 k c R[k] hc (List.getElem?_eq_getElem hkR);have:=hrA _ (List.getElem_mem hkR);rw [m3,List.length_take];omega
    have hl0:=hlenq 0 c0 hc0;have hl1:=cellRows_len c0.cells;(refine g ?_;intros);refine W.loopR (fun m st=>∃ (i:Nat) (n:Int),i≤qs.length∧(1≤n∧n≤(rowsN a:Nat))∧(∀ (k:Nat) (c:Column),k<i→qs[k]?=some c→n≤(c.cells.length:Nat))∧m=qs.length-i∧st=⟨[(3,.bp 70 0),(4,.sl (tblRows L) false),(5,.bp 5 0),(6,.bp 6 0),(7,.bp 7 0),(13,.int .i64 n),(102,.int .i64 (colRows qs).length),(103,.int .i64 (i:Nat))],[(70,[diceB t p]),(5,[.rows 3 [a.row] none]),(6,[.rows 3 [[.int .i64 0,.str [],.osl 91 0 0 (colRows qs).length (colRows qs).length]] none]),(7,[.rows 4 [[.int .i64 a.id,.nils,.nils,.osl 92 0 0 (rfRows R).length (rfRows R).length]] none]),(91,[.rows 2 (colRows qs) (some [])]),(92,[.rows 2 (rfRows R) (some [])])],[70,5,6,7,91,92]⟩)
     qs.length _ ⟨0,((cellRows c0.cells).length:Nat),by omega,by constructor<;>omega,fun k c hk=>by omega,by omega,rfl⟩ (Ref.le (mp:=[(70,70),(5,5),(6,6),(7,7),(91,91),(92,92)]) (bo:=[]) (gs:=[]) (LeG.mq (.ci 70 (.ci 5 (.ci 6 (.ci 7 (.ci 91 (.ci 92 .nil)))))))) ?_
    rintro m st ⟨i,n,hi,hn,hmin,rfl,rfl⟩;refine gS (fun hb=>?_) fun hb=>?_
    ·have hil:i<qs.length:=by omega
     have hqg:=colRows_get hil;have hq0:qs[i]?=some qs[i]:=List.getElem?_eq_getElem hil;generalize qs[i]=c at *;have hl0:=hlenq i c hq0;have hl1:=cellRows_len c.cells;(refine g ?_;intros);refine ⟨_,_,?_,⟨i+1,_,by omega,?_,fun k d hk hd=>?_,rfl,rfl⟩,(Ref.le (mp:=[(70,70),(5,5),(6,6),(7,7),(91,91),(92,92)]) (bo:=[]) (gs:=[]) (LeG.mq (.ci 70 (.ci 5 (.ci 6 (.ci 7 (.ci 91 (.ci 92 .nil))))))))⟩
     ·omega
     ·show 1≤min n _∧min n _≤_;constructor<;>omega
     ·show min n _≤_;by_cases e:k=i
      ·subst e;rw [hq0] at hd;cases hd;omega
      ·have:=hmin k d (by omega) hd;omega
    ·have hie:i=qs.length:=by omega
     subst hie;obtain ⟨n,rfl⟩:=Int.eq_ofNat_of_zero_le (show 0≤n by omega);have hn2:1≤n∧n≤rowsN a:=by omega
     have hcutn:CutN a R n 0 qs qs:=⟨hqn,fun k c r hc hr=>by rw [if_neg (by omega)];exact hc⟩
     generalize hKq:(colRows qs).length=Kq at *;(refine g ?_;intros);refine W.loopR (fun m st=>∃ (i:Nat) (qw:List Column),i≤qs.length∧CutN a R n i qs qw∧m=qs.length-i∧st=⟨[(3,.bp 70 0),(4,.sl (tblRows L) false),(5,.bp 5 0),(6,.bp 6 0),(7,.bp 7 0),(13,.int .i64 (n:Nat)),(118,.int .i64 (Kq:Nat)),(119,.int .i64 (i:Nat))],[(70,[diceB t p]),(5,[.rows 3 [a.row] none]),(6,[.rows 3 [[.int .i64 0,.str [],.osl 91 0 0 Kq Kq]] none]),(7,[.rows 4 [[.int .i64 a.id,.nils,.nils,.osl 92 0 0 (rfRows R).length (rfRows R).length]] none]),(91,[.rows 2 (colRows qw) (some [])]),(92,[.rows 2 (rfRows R) (some [])])],[70,5,6,7,91,92]⟩)
      qs.length _ ⟨0,qs,by omega,hcutn,by omega,rfl⟩ (Ref.le (mp:=[(70,70),(5,5),(6,6),(7,7),(91,91),(92,92)]) (bo:=[]) (gs:=[]) (LeG.mq (.ci 70 (.ci 5 (.ci 6 (.ci 7 (.ci 91 (.ci 92 .nil)))))))) ?_
     clear hcutn;rintro m st ⟨i,qw,hi,hcutn,rfl,rfl⟩;have hwl:=colRows_len qw;have hwn:=hcutn.1;(refine g ?_;intros);refine boolRes_split (fun hb=>?_) (fun hb=>?_)<;>conv=>whnf
     ·have hil:i<qw.length:=by omega
      have hiR:i<R.length:=by omega
      have hqg:=colRows_get hil;have hq0:qw[i]?=some qw[i]:=List.getElem?_eq_getElem hil;have hrg:R[i]?=some R[i]:=List.getElem?_eq_getElem hiR;have hold:=hcutn.2 i _ _ hq0 hrg;rw [if_neg (by omega)] at hold;obtain ⟨m,m1,m2,m3⟩:=hcut.2 i _ _ hold hrg;have hl0:=hmin i _ (by omega) hold;have hstep:=cutN_step hcutn hrg;generalize qw[i]=c at *;generalize R[i]=r at *;subst m3;have hl1:(cellRows ((cellsA a r).take m)).length=((cellsA a r).take m).length:=cellRows_len _;have hnm:n≤m:=by
       have hl0:(n:Int)≤(((cellsA a r).take m).length:Nat):=hl0;rw [List.length_take] at hl0;omega
      have hl0:(n:Int)≤(((cellsA a r).take m).length:Nat):=hl0;have hset:∀ x,x=i→colRows (qw.set i ⟨[],(cellsA a r).take n⟩)=(colRows qw).set x [.str [],.sl ((cellRows ((cellsA a r).take m)).take n) false]:=by
       rintro x rfl;unfold colRows;rw [List.map_set];congr 1;unfold Column.row cellRows;rw [←List.map_take (l:=List.take m _),List.take_take,Nat.min_eq_left hnm]
      replace hqg:(colRows qw)[i]?=some [.str [],.sl (cellRows ((cellsA a r).take m)) false]:=hqg;(refine g ?_;intros);refine ⟨cellRows_sz _,?_⟩;(conv=>whnf);(refine g ?_;intros);refine ⟨_,_,?_,⟨i+1,qw.set i ⟨[],(cellsA a r).take n⟩,by omega,hstep,rfl,rfl⟩,Ref.le (mp:=[(70,70),(5,5),(6,6),(7,7),(91,91),(92,92)]) (bo:=[]) (gs:=[]) (LeG.mq (.ci 70 (.ci 5 (.ci 6 (.ci 7 (.cons 91 rfl rfl (.refl _) (congrArg (fun l=>[Blk.rows 2 l (some [])]) (hset _ (by simp))) (.ci 92 .nil)))))))⟩;omega
     ·have hie:i=R.length:=by omega
      rw [hie] at hcutn;have hq:=cutN_all hcutn;obtain ⟨S,hS1,hS2⟩:=hself R hR h0 n (by omega);have spF:=exFind_spec L [] (qS a R n) 0 1024 hsm (fun r hr=>by cases hr) (by decide);rw [hS1] at spF;simp only at spF;have hKw:(colRows qw).length=Kq:=by omega
      have hql2:=fndRows_len S;have spR:=rows3_spec a;clear hcutn hmin hlenq hrA hcut hwl hwn hie hi hKq hself hql hqn hS1;subst hKw;refine W.leG (mp:=[(5,5),(6,6),(7,7)]) (bo:=[91,92]) (st':=⟨[(4,.sl (tblRows L) false),(5,.bp 5 0),(6,.bp 6 0),(7,.bp 7 0),(120,.bool false)],[(5,[.rows 3 [a.row] none]),(6,[.rows 3 [Table.row ⟨0,[],qw⟩] none]),(7,[.rows 4 [[.int .i64 a.id,.nils,.nils,.sl (rfRows R) false]] none])],[5,6,7]⟩)
       (LeG.mq (.ci 5 (.cons 6 (b1:=.rows 3 [Table.row ⟨0,[],qw⟩] none) rfl rfl (.rows _ _ _ (by repeat' (first | exact trivial | exact ⟨Lent.refl _,rfl⟩ | exact ⟨Lent.norm _,rfl⟩ | exact ⟨Lent.whole rfl rfl (by first | rfl | exact List.length_append.symm | exact hlenR | simp) rfl (by first | exact .inl rfl | exact .inr rfl),rfl⟩ | apply And.intro))) rfl (.cons 7 (b1:=.rows 4 [[.int .i64 a.id,.nils,.nils,.sl (rfRows R) false]] none) rfl rfl (.rows _ _ _ (by repeat' (first | exact trivial | exact ⟨Lent.refl _,rfl⟩ | exact ⟨Lent.norm _,rfl⟩ | exact ⟨Lent.whole rfl rfl (by first | rfl | exact List.length_append.symm | exact hlenR | simp) rfl (by first | exact .inl rfl | exact .inr rfl),rfl⟩ | apply And.intro))) rfl .nil)))) ?_
      rw [hq];(refine g ?_;intros);refine W.loopR (fun m st=>∃ (i:Nat) (b:Bool),i≤S.length∧(b||(S.drop i).any (isS a R))=true∧m=S.length-i∧st=⟨[(5,.bp 5 0),(7,.bp 7 0),(17,.int .i64 0),(18,.bool b),(142,.sl (fndRows S) false),(143,.int .i64 (fndRows S).length),(144,.int .i64 (i:Nat))],[(5,[.rows 3 [a.row] none]),(7,[.rows 4 [[.int .i64 a.id,.nils,.nils,.sl (rfRows R) false]] none])],[5,7]⟩)
       S.length _ ⟨0,false,by omega,?_,by omega,rfl⟩ (Ref.le (mp:=[(5,5),(7,7)]) (bo:=[]) (gs:=[]) (LeG.mq (.ci 5 (.ci 7 .nil)))) ?_
      ·rw [List.drop_zero,Bool.false_or,List.any_eq_true];refine ⟨_,hS2,?_⟩;unfold isS;rw [decide_eq_true ⟨rfl,rfl⟩,decide_eq_true rfl];rfl
      clear hS2 spF;rintro m st ⟨i,b,hi,hbb,rfl,rfl⟩;refine gS (fun hb=>?_) fun hb=>?_
      ·have hil:i<S.length:=by omega
       have hfg:=fndRows_get hil;rw [List.drop_eq_getElem_cons hil,List.any_cons] at hbb;generalize S[i]=y at *;cases b with
       | true =>
        (refine g ?_;intros);refine ⟨_,_,?_,⟨i+1,true,by omega,rfl,rfl,rfl⟩,(Ref.le (mp:=[(5,5),(7,7)]) (bo:=[]) (gs:=[]) (LeG.mq (.ci 5 (.ci 7 .nil))))⟩;omega
       | false =>
        have spS:=same34_spec y ⟨⟨a.id,[]⟩,R,0⟩;by_cases h:y.p=⟨a.id,[]⟩∧y.cs=R
        ·rw [decide_eq_true h] at spS;by_cases h2:y.rows=(rowsN a:Nat)
         ·(refine g ?_;intros);refine ⟨_,_,?_,⟨i+1,true,by omega,rfl,rfl,rfl⟩,(Ref.le (mp:=[(5,5),(7,7)]) (bo:=[]) (gs:=[]) (LeG.mq (.ci 5 (.ci 7 .nil))))⟩;omega
         ·have hf:isS a R y=false:=by unfold isS;rw [decide_eq_false h2,Bool.and_false]
          rw [hf,Bool.false_or,Bool.false_or] at hbb;(refine g ?_;intros);refine ⟨_,_,?_,⟨i+1,false,by omega,hbb,rfl,rfl⟩,(Ref.le (mp:=[(5,5),(7,7)]) (bo:=[]) (gs:=[]) (LeG.mq (.ci 5 (.ci 7 .nil))))⟩;omega
        ·rw [decide_eq_false h] at spS;have hf:isS a R y=false:=by unfold isS;rw [decide_eq_false h,Bool.false_and]
         rw [hf,Bool.false_or,Bool.false_or] at hbb;(refine g ?_;intros);refine ⟨_,_,?_,⟨i+1,false,by omega,hbb,rfl,rfl⟩,(Ref.le (mp:=[(5,5),(7,7)]) (bo:=[]) (gs:=[]) (LeG.mq (.ci 5 (.ci 7 .nil))))⟩;omega
      ·rw [List.drop_eq_nil_of_le (by omega),List.any_nil,Bool.or_false] at hbb;subst hbb;exact gR
 ·rw [decide_eq_false hll] at spL;refine gEn env Tryz.func5 fun Γ hN hK hML=>?_;exact gR
end Go.Sx.Sp
namespace Go.Sx.Sp
open Go Go.Sx Go.Proofs
attribute [local irreducible] GoodW famL
theorem exself_calls {w:World}{v0:Value}{u0:V}(r0:VRel w (fun _=>False) (fun _ _=>none) u0 v0) (a0:argShape T 2 22 u0) (hg:GRel w (fun _=>False)) :
  Calls Tryz.prog 5 #[v0] w fun e w'=>e=.returned (.bool true)∧Go.RowKit.Below w.heap.size w w':=by
 obtain ⟨l,rfl⟩:=arg_ints a0;refine Spec.law (exSelf_law l) (cargs:=[v0]) rfl (fun j u c hj hc=>?_) rfl hg
 match j with
 | 0=>cases hj;cases hc;exact r0
 | j+1=>cases hj
end Go.Sx.Sp
