/- How regions in any order, code, loops and functions are stepped through. -/
import Derived.Test.YthlokmbefpjmgaaGreatDoorSxTwo
import Derived.Test.YthlokmbefpjmgaaGreatDoorSxOne
import Derived.KernelRfl
set_option linter.unusedVariables false
set_option linter.unusedSimpArgs false
namespace Go.Sx
open Go
structure Ev where
 run:Bool
 ρ:Operand→V
 h:Nat→List Blk
 v:V
 us:List Up
 rd:List Nat
def wantedS (ops:Array Oper) (env:Nat→V) (o:Oper):Option Bool:=
 match o.guard with
 | none=>some true
 | some (j,want) =>
  match (ops[j]?).bind (·.dst) with
  | none=>some false
  | some t =>
   match env t with
   | .bool b=>some (match b with | true=>want | false=>!want)
   | .tup []=>some false
   | _=>none
def ASt.putO (s:ASt) (d:Option Nat) (v:V):ASt:=
 match d with
 | some t=>s.put t v
 | none=>s
def ASt.step (s:ASt) (d:Option Nat) (ev:Ev):ASt:=
 match ev.run with
 | true=>(s.ups ev.us).putO d ev.v
 | false=>s.putO d (.tup [])
structure Valid [Glob] (ops:Array Oper) (o:Oper) (ev:Ev) (s:ASt):Prop where
 want:wantedS ops s.env o=some ev.run
 opnd:ev.run=true→∀ x∈o.op.operands,evalO s.env x=ev.ρ x
 heap:ev.run=true→∀ k∈ev.rd,s.heap k=ev.h k
 made:ev.run=true→∀ k∈Up.made ev.us,s.used k=false
def GoodW [Glob] (P:Program) (N:NB) (o:Oper) (ρ:Operand→V) (h:Nat→List Blk) (v:V) (us:List Up) (rd:List Nat):Prop:=
 ∀ (Γ:Ctx) (m:MM) (s:ASt) (a:Act) (w:World),Γ.N=N→Rel Γ m s a w→(∀ x∈o.op.operands,evalO s.env x=ρ x)→(∀ k∈rd,s.heap k=h k)→(∀ k∈Up.made us,s.used k=false) →
  o.wp P a w (fun a' w'=>∃ m',Rel Γ m' ((s.ups us).putO o.dst v) a' w') (fun _ _ _=>False)
def dstOK (N:NB) (d:Option Nat):Bool:=
 match d with
 | none=>true
 | some t=>Nat.blt t N.n&&!memB t N.ban
theorem Rel.putO [Glob] {Γ:Ctx}{m:MM}{s:ASt}{a:Act}{w:World}(h:Rel Γ m s a w) {d:Option Nat}(hd:dstOK Γ.N d=true) {v:V}{c:Value}
  (hv:VRel w (Forb Γ m) m v c) (hs:∀ k∈v.sites,s.used k=true):Rel Γ m (s.putO d v) (a.put d c) w:=by
 cases d with
 | none=>exact h
 | some t =>
  simp only [dstOK,Bool.and_eq_true,Bool.not_eq_true'] at hd;exact h.put (Nat.le_of_ble_eq_true hd.1) (memB_false hd.2) hv hs
theorem GoodV.toW [Glob] {P:Program}{N:NB}{o:Oper}{ρ:Operand→V}{h:Nat→List Blk}{v:V}{us:List Up}{rd:List Nat}(hd:dstOK N o.dst=true) (g:GoodV P N o ρ h v us rd):GoodW P N o ρ h v us rd:=by
 intro Γ m s a w hN hr ho hh hm;obtain ⟨nx,c,w',m',h1,h2,h3,h4,h5⟩:=g Γ m s a w hN hr ho hh hm;have hd':dstOK Γ.N o.dst=true:=by rw [hN];exact hd
 unfold Oper.wp;rw [h1];rcases h2 with rfl | ⟨rfl,rfl⟩
 ·exact ⟨m',h3.putO hd' h4 h5⟩
 ·exact ⟨m',h3.putO hd' h4 h5⟩
theorem wantedS_ok [Glob] {ops:Array Oper}{Γ:Ctx}{m:MM}{s:ASt}{a:Act}{w:World}(hr:Rel Γ m s a w) {o:Oper}{b:Bool}(h:wantedS ops s.env o=some b):Region.wanted o (yielded ops a.tmps)=b:=by
 unfold wantedS at h;unfold Region.wanted;cases hg:o.guard with
 | none=>simp only [hg] at h;cases h;rfl
 | some gw =>
  obtain ⟨j,want⟩:=gw;simp only [hg] at h;unfold yielded;cases ht:(ops[j]?).bind (·.dst) with
  | none=>simp only [ht] at h;cases h;simp [ht]
  | some t =>
   simp only [ht] at h;have hv:=hr.env t;rw [Array.getD_eq_getD_getElem?] at hv;split at h
   ·rename_i bb he;rw [he] at hv;have h2:=hv.bool_inv;cases hq:a.tmps[t]? with
    | none=>rw [hq] at h2;cases h2
    | some c =>
     rw [hq] at h2;simp at h2;subst h2;cases bb<;>cases want<;>simp at h<;>subst h<;>simp [ht,hq]
   ·rename_i he;cases h;rw [he] at hv;cases hq:a.tmps[t]? with
    | none=>simp [ht,hq]
    | some c =>
     rw [hq] at hv;simp at hv;generalize hc:c=c' at hv;cases hv with
     | tup cs c2 hl hv =>
      subst hc;simp [ht,hq]
   ·cases h
section
variable {P:Program}{N:NB}{ops:Array Oper}
theorem step_ok [Glob] {Γ:Ctx}{m:MM}{s:ASt}{a:Act}{w:World}(hN:Γ.N=N) (hr:Rel Γ m s a w) {i:Nat}{o:Oper}{ev:Ev}{Q:Exit→Act→World→Prop}{K:Act→World→Prop}
  (ho:ops[i]?=some o) (hd:dstOK N o.dst=true) (hg:ev.run=true→GoodW P N o ev.ρ ev.h ev.v ev.us ev.rd) (hv:Valid ops o ev s)
  (hK:∀ m' a' w',Rel Γ m' (s.step o.dst ev) a' w'→K a' w'):wpOp P ops Q i K a w:=by
 unfold wpOp;simp only [ho,wantedS_ok hr hv.want];cases hrun:ev.run with
 | true =>
  simp only [if_true];refine .inl ?_;have h1:=hg hrun Γ m s a w hN hr (hv.opnd hrun) (hv.heap hrun) (hv.made hrun);unfold Oper.wp at h1 ⊢;generalize (execOp a.eval o).run P w=r at h1;have hK':∀ a' w',(∃ m',Rel Γ m' ((s.ups ev.us).putO o.dst ev.v) a' w')→K a' w':=fun a' w' ⟨m',h2⟩=>hK m' a' w' (by simpa [ASt.step,hrun] using h2);cases r with
  | ok n w' =>
   cases n<;>simp only [Oper.upon] at h1 ⊢
   case value v=>exact hK' _ _ h1
   case skip=>exact hK' _ _ h1
   case defer d=>exact hK' _ _ h1
   case enter f args =>
    refine h1.mono fun e w'' he=>?_;cases e with
    | returned v=>exact hK' _ _ he
    | panicked chain=>exact he.elim
    | outgrown=>obtain ⟨_,_,hf⟩:=he;exact hf.elim
   case row r args=>exact h1.mono fun v w'' he=>hK' _ _ he
  | halt x w'=>cases x<;>simp only [Oper.upon] at h1
 | false =>
  simp only [Bool.false_eq_true,if_false];refine hK m _ _ ?_;simp only [ASt.step,hrun];refine hr.putO (by rw [hN];exact hd) (.tup [] [] rfl (fun j v x hj=>by simp at hj)) (by simp [V.sites,sitesL])
def upSites:List Up→List Nat
 | []=>[]
 | .fresh k _::us=>k::upSites us
 | .upd k _ _::us=>k::upSites us
 | .all k _::us=>k::upSites us
theorem made_sub:∀ (us:List Up) k,k∈Up.made us→k∈upSites us
 | [],k,h=>by simp [Up.made] at h
 | .fresh j b::us,k,h=>by
  simp only [Up.made,List.mem_cons] at h;rcases h with h | h
  ·simp [upSites,h]
  ·simp [upSites,made_sub us k h]
 | .upd j i b::us,k,h=>by
  simp only [Up.made] at h;simp [upSites,made_sub us k h]
 | .all j b::us,k,h=>by
  simp only [Up.made] at h;simp [upSites,made_sub us k h]
theorem ups_env:∀ (us:List Up) (s:ASt),(s.ups us).env=s.env
 | [],_=>rfl
 | .fresh k b::us,s=>by simp only [ASt.ups,List.foldl_cons];exact (ups_env us _).trans rfl
 | .upd k i b::us,s=>by simp only [ASt.ups,List.foldl_cons];exact (ups_env us _).trans rfl
 | .all k b::us,s=>by simp only [ASt.ups,List.foldl_cons];exact (ups_env us _).trans rfl
theorem up_heap_other (u:Up) (s:ASt) {k:Nat}(h:k∉upSites [u]):(s.up u).heap k=s.heap k:=by
 cases u with
 | fresh j b=>simp [upSites] at h;simp [ASt.up,ASt.fresh,h]
 | upd j i b=>simp [upSites] at h;simp [ASt.up,ASt.at,h]
 | all j b=>simp [upSites] at h;simp [ASt.up,h]
theorem ups_heap_other:∀ (us:List Up) (s:ASt) {k:Nat},k∉upSites us→(s.ups us).heap k=s.heap k
 | [],_,_,_=>rfl
 | u::us,s,k,h=>by
  have h1:k∉upSites [u]∧k∉upSites us:=by cases u<;>simp [upSites] at h ⊢<;>exact h
  simp only [ASt.ups,List.foldl_cons];exact (ups_heap_other us (s.up u) h1.2).trans (up_heap_other u s h1.1)
theorem ups_used:∀ (us:List Up) (s:ASt) (k:Nat),(s.ups us).used k=(s.used k||decide (k∈Up.made us))
 | [],s,k=>by simp [ASt.ups,Up.made]
 | .fresh j b::us,s,k=>by
  simp only [ASt.ups,List.foldl_cons];have:=ups_used us (s.up (.fresh j b)) k;simp only [ASt.ups] at this;rw [this];simp only [ASt.up,ASt.fresh,Up.made,List.mem_cons];by_cases hk:k=j<;>simp [hk]
 | .upd j i b::us,s,k=>by
  simp only [ASt.ups,List.foldl_cons];have:=ups_used us (s.up (.upd j i b)) k;simp only [ASt.ups] at this;rw [this];by_cases hm:k∈Up.made us<;>simp [ASt.up,ASt.at,Up.made,hm]
 | .all j b::us,s,k=>by
  simp only [ASt.ups,List.foldl_cons];have:=ups_used us (s.up (.all j b)) k;simp only [ASt.ups] at this;rw [this];by_cases hm:k∈Up.made us<;>simp [ASt.up,Up.made,hm]
theorem ups_heap_congr:∀ (us:List Up) (s s':ASt) {k:Nat},s.heap k=s'.heap k→(s.ups us).heap k=(s'.ups us).heap k
 | [],_,_,_,h=>h
 | u::us,s,s',k,h=>by
  simp only [ASt.ups,List.foldl_cons];refine ups_heap_congr us (s.up u) (s'.up u) ?_;cases u with
  | fresh j b=>simp only [ASt.up,ASt.fresh];split<;>first | rfl | exact h
  | upd j i b=>simp only [ASt.up,ASt.at];split<;>simp [h]
  | all j b=>simp only [ASt.up];split<;>first | rfl | exact h
theorem ASt.ext' {s s':ASt}(h1:s.env=s'.env) (h2:s.heap=s'.heap) (h3:s.used=s'.used):s=s':=by
 cases s;cases s';simp_all
theorem putO_heap (s:ASt) (d:Option Nat) (v:V):(s.putO d v).heap=s.heap:=by cases d<;>rfl
theorem putO_used (s:ASt) (d:Option Nat) (v:V):(s.putO d v).used=s.used:=by cases d<;>rfl
theorem putO_env (s:ASt) (d:Option Nat) (v:V):(s.putO d v).env=fun u=>if d=some u then v else s.env u:=by
 cases d with
 | none=>funext u;simp [ASt.putO]
 | some t =>
  funext u;simp only [ASt.putO,ASt.put];by_cases h:u=t
  ·simp [h]
  ·have h':¬ t=u:=fun e=>h e.symm;simp [h,h']
def Ev.val (ev:Ev):V:=match ev.run with | true=>ev.v | false=>.tup []
def Ev.ups (ev:Ev):List Up:=match ev.run with | true=>ev.us | false=>[]
def Ev.reads (ev:Ev):List Nat:=match ev.run with | true=>ev.rd | false=>[]
theorem step_eq (s:ASt) (d:Option Nat) (ev:Ev):s.step d ev=(s.ups ev.ups).putO d ev.val:=by
 unfold ASt.step Ev.val Ev.ups;cases ev.run<;>rfl
theorem step_env (s:ASt) (d:Option Nat) (ev:Ev):(s.step d ev).env=fun u=>if d=some u then ev.val else s.env u:=by
 rw [step_eq,putO_env,ups_env]
theorem step_heap (s:ASt) (d:Option Nat) (ev:Ev):(s.step d ev).heap=(s.ups ev.ups).heap:=by rw [step_eq,putO_heap]
theorem step_used (s:ASt) (d:Option Nat) (ev:Ev):(s.step d ev).used=(s.ups ev.ups).used:=by rw [step_eq,putO_used]
structure Indep (ops:Array Oper) (oi oj:Oper) (ei ej:Ev):Prop where
 apart:oi.apart ops oj=true
 ww:∀ k∈upSites ei.ups,k∉upSites ej.ups
 wr:∀ k∈upSites ei.ups,k∉ej.reads
 rw:∀ k∈upSites ej.ups,k∉ei.reads
theorem evalO_same [Glob] {env env':Nat→V}{o:Oper}(h:∀ t∈o.looksAt ops,env' t=env t):∀ x∈o.op.operands,evalO env' x=evalO env x:=by
 intro x hx;cases x with
 | tmp t=>exact h t (List.mem_append_left _ (List.mem_filterMap.2 ⟨.tmp t,by simpa using hx,rfl⟩))
 | _=>rfl
theorem wantedS_same {env env':Nat→V}{o:Oper}(h:∀ t∈o.looksAt ops,env' t=env t):wantedS ops env' o=wantedS ops env o:=by
 unfold wantedS;cases hg:o.guard with
 | none=>rfl
 | some gw =>
  obtain ⟨j,want⟩:=gw;simp only;cases ht:(ops[j]?).bind (·.dst) with
  | none=>rfl
  | some t=>simp only;rw [h t (List.mem_append_right _ (by simp [hg,ht]))]
theorem Valid.of_same [Glob] {o:Oper}{ev:Ev}{s s':ASt}(hv:Valid ops o ev s) (he:∀ t∈o.looksAt ops,s'.env t=s.env t) (hh:∀ k∈ev.reads,s'.heap k=s.heap k) (hu:∀ k∈Up.made ev.ups,s'.used k=false):Valid ops o ev s':=by
 refine ⟨by rw [wantedS_same he];exact hv.want,fun hr x hx=>by rw [evalO_same he x hx];exact hv.opnd hr x hx,fun hr k hk=>?_,fun hr k hk=>?_⟩
 ·rw [hh k (by simpa [Ev.reads,hr] using hk)];exact hv.heap hr k hk
 ·exact hu k (by simpa [Ev.ups,hr] using hk)
theorem swap [Glob] {oi oj:Oper}{ei ej:Ev}{s:ASt}(hi:Indep ops oi oj ei ej) (h1:Valid ops oi ei s) (h2:Valid ops oj ej (s.step oi.dst ei)) :
  Valid ops oj ej s∧Valid ops oi ei (s.step oj.dst ej)∧(s.step oi.dst ei).step oj.dst ej=(s.step oj.dst ej).step oi.dst ei:=by
 obtain ⟨a1,a2,a3⟩:=Oper.apart_spec hi.apart;refine ⟨?_,?_,?_⟩
 ·refine h2.of_same (fun t ht=>?_) (fun k hk=>?_) (fun k hk=>?_)
  ·rw [step_env];have:oi.dst≠some t:=fun e=>a1 t e ht;simp [this]
  ·rw [step_heap,ups_heap_other];exact fun hm=>hi.wr k hm hk
  ·have h3:(s.step oi.dst ei).used k=false:=by
    cases hr:ej.run with
    | true=>exact h2.made hr k (by simpa [Ev.ups,hr] using hk)
    | false=>simp [Ev.ups,hr,Up.made] at hk
   rw [step_used,ups_used] at h3;simp at h3;exact h3.1
 ·refine h1.of_same (fun t ht=>?_) (fun k hk=>?_) (fun k hk=>?_)
  ·rw [step_env];have:oj.dst≠some t:=fun e=>a3 t e ht;simp [this]
  ·rw [step_heap,ups_heap_other];exact fun hm=>hi.rw k hm hk
  ·have h3:s.used k=false:=by
    cases hr:ei.run with
    | true=>exact h1.made hr k (by simpa [Ev.ups,hr] using hk)
    | false=>simp [Ev.ups,hr,Up.made] at hk
   rw [step_used,ups_used,h3];simp;exact fun hm=>hi.ww k (made_sub _ _ hk) (made_sub _ _ hm)
 ·refine ASt.ext' ?_ ?_ ?_
  ·simp only [step_env];funext u;by_cases hj:oj.dst=some u
   ·by_cases hi':oi.dst=some u
    ·exact absurd hj (a2 u hi')
    ·simp [hj,hi']
   ·by_cases hi':oi.dst=some u<;>simp [hj,hi']
  ·simp only [step_heap];funext k;by_cases hki:k∈upSites ei.ups
   ·have hkj:=hi.ww k hki;rw [ups_heap_other _ _ hkj,step_heap];refine (ups_heap_congr _ _ _ ?_);rw [step_heap,ups_heap_other _ _ hkj]
   ·rw [ups_heap_other _ (s.step oj.dst ej) hki,step_heap];refine (ups_heap_congr _ _ _ ?_);rw [step_heap,ups_heap_other _ _ hki]
  ·simp only [step_used];funext k;rw [ups_used,ups_used,step_used,step_used,ups_used,ups_used];cases s.used k<;>simp [Bool.or_comm]
def Runs [Glob] (ops:Array Oper) (evs:Nat→Ev):ASt→List Nat→Prop
 | _,[]=>True
 | s,i::L=>∃ o,ops[i]?=some o∧Valid ops o (evs i) s∧Runs ops evs (s.step o.dst (evs i)) L
def fin (ops:Array Oper) (evs:Nat→Ev):ASt→List Nat→ASt
 | s,[]=>s
 | s,i::L=>fin ops evs (s.step ((ops[i]?).bind (·.dst)) (evs i)) L
theorem front [Glob] {evs:Nat→Ev}{j:Nat}{oj:Oper}(hj:ops[j]?=some oj) {L2:List Nat}:∀ (L1:List Nat) (s:ASt),(∀ i∈L1,∀ oi,ops[i]?=some oi→Indep ops oi oj (evs i) (evs j))→Runs ops evs s (L1++j::L2) →
  Runs ops evs s (j::(L1++L2))∧fin ops evs s (L1++j::L2)=fin ops evs s (j::(L1++L2))
 | [],s,_,h=>⟨h,rfl⟩
 | i::L1,s,hi,h=>by
  obtain ⟨oi,hoi,hv,hr⟩:=h;obtain ⟨⟨oj',hoj',hvj,hr'⟩,hf⟩:=front hj L1 _ (fun k hk=>hi k (List.mem_cons_of_mem _ hk)) hr;rw [hj] at hoj';cases hoj';obtain ⟨g1,g2,g3⟩:=swap (hi i (by simp) oi hoi) hv hvj;refine ⟨⟨oj,hj,g1,oi,hoi,g2,by rw [←g3];exact hr'⟩,?_⟩;simp only [List.cons_append,fin,hoi,Option.bind_some] at hf ⊢;rw [hf];simp only [hj,Option.bind_some];rw [g3]
inductive Waits (ops:Array Oper):Nat→Nat→Prop
 | one {j:Nat}{oj:Oper}{e:Edge}(h:ops[j]?=some oj) (he:e∈oj.after) (hb:Region.binds .any e=true):Waits ops j e.on
 | trans {j k i:Nat}(h1:Waits ops j k) (h2:Waits ops k i):Waits ops j i
def Closed (ops:Array Oper) (listed:Array Bool):Prop:=∀ (j:Nat) oj,ops[j]?=some oj→listed.getD j false=true→∀ e∈oj.after,Region.binds .any e=true→listed.getD e.on false=true
theorem Closed.waits {listed:Array Bool}(hc:Closed ops listed) {j i:Nat}(h:Waits ops j i):(∀ oj,ops[j]?=some oj→∀ e∈oj.after,Region.binds .any e=true→listed.getD e.on false=true)→listed.getD i false=true:=by
 induction h with
 | one h he hb=>exact fun hd=>hd _ h _ he hb
 | trans h1 h2 ih1 ih2=>exact fun hd=>ih2 fun ok hk e he hb=>hc _ ok hk (ih1 hd) e he hb
def unlisted (ops:Array Oper) (listed:Array Bool):List Nat:=(List.range ops.size).filter fun i=>!listed.getD i true
theorem getD_tf {listed:Array Bool}{i:Nat}(hi:i<listed.size):listed.getD i true=listed.getD i false:=by simp [hi]
theorem any_ok [Glob] {evs:Nat→Ev}{Γ:Ctx}{Q:Exit→Act→World→Prop}(hN:Γ.N=N) (hlex:∀ (i:Nat) o,ops[i]?=some o→∀ e∈o.after,Region.binds .any e=true→e.on<i)
  (hd:∀ (i:Nat) o,ops[i]?=some o→dstOK N o.dst=true) (hgood:∀ (i:Nat) o,ops[i]?=some o→(evs i).run=true→GoodW P N o (evs i).ρ (evs i).h (evs i).v (evs i).us (evs i).rd)
  (hind:∀ (i j:Nat) oi oj,i<j→ops[i]?=some oi→ops[j]?=some oj→¬ Waits ops j i→Indep ops oi oj (evs i) (evs j)) {sf:ASt}(hQ:∀ m a w,Rel Γ m sf a w→Q .normal a w) :
  ∀ (fuel:Nat) (listed:Array Bool) (s:ASt) (m:MM) (a:Act) (w:World),listed.size=ops.size→(unlisted ops listed).length=fuel→Closed ops listed→Runs ops evs s (unlisted ops listed)→fin ops evs s (unlisted ops listed)=sf→Rel Γ m s a w →
   wpAny P .any ops Q fuel listed a w:=by
 intro fuel
 induction fuel with
 | zero =>
  intro listed s m a w hsz hlen hc hruns hfin hr;have h0:unlisted ops listed=[]:=List.length_eq_zero_iff.1 hlen;rw [h0] at hfin;refine ⟨?_,hQ m a w (by rw [←hfin];exact hr)⟩;unfold Region.ready;rw [List.filter_eq_nil_iff];intro i hi;have:=List.filter_eq_nil_iff.1 h0 i hi;simp at this ⊢;intro h1;rw [this] at h1;cases h1
 | succ fuel ih =>
  intro listed s m a w hsz hlen hc hruns hfin hr;have hready:∀ {j:Nat},j∈Region.ready .any ops listed→listed.getD j true=false∧∃ oj,ops[j]?=some oj∧∀ e∈oj.after,Region.binds .any e=true→listed.getD e.on false=true:=fun hj=>mem_ready.1 hj;constructor
  ·
   intro h0;exfalso;cases hL:unlisted ops listed with
   | nil=>rw [hL] at hlen;simp at hlen
   | cons i L =>
    have hmem:i∈unlisted ops listed:=by rw [hL];simp
    obtain ⟨hir,hiu⟩:=List.mem_filter.1 hmem;have hi:i<ops.size:=List.mem_range.1 hir;have hiu:listed.getD i true=false:=by simpa using hiu
    have:i∈Region.ready .any ops listed:=by
     refine mem_ready.2 ⟨hiu,ops[i],Array.getElem?_eq_getElem hi,fun e he hb=>?_⟩;have hlt:=hlex i _ (Array.getElem?_eq_getElem hi) e he hb;rw [←getD_tf (by omega)];cases hg:listed.getD e.on true with
     | true=>rfl
     | false =>
      exfalso;have hm2:e.on∈unlisted ops listed:=List.mem_filter.2 ⟨List.mem_range.2 (by omega),by simp [hg]⟩;rw [hL] at hm2;have hsorted:(unlisted ops listed).Pairwise (· < ·):=List.Pairwise.filter _ List.pairwise_lt_range;rw [hL] at hsorted;rcases List.mem_cons.1 hm2 with e1 | e1
      ·omega
      ·have:=(List.pairwise_cons.1 hsorted).1 _ e1;omega
    rw [h0] at this;cases this
  ·intro j hj;obtain ⟨hju,oj,hoj,hall⟩:=hready hj;have hjs:j<ops.size:=(Array.getElem?_eq_some_iff.1 hoj).1;have hjm:j∈unlisted ops listed:=List.mem_filter.2 ⟨List.mem_range.2 hjs,by simp [hju]⟩;obtain ⟨L1,L2,hL⟩:=List.append_of_mem hjm;have hsorted:(unlisted ops listed).Pairwise (· < ·):=List.Pairwise.filter _ List.pairwise_lt_range;rw [hL] at hsorted hruns hfin;have hL1:∀ i∈L1,i<j:=fun i hi=>(List.pairwise_append.1 hsorted).2.2 i hi j (by simp);have hL2:∀ i∈L2,j<i:=fun i hi=>(List.pairwise_cons.1 (List.pairwise_append.1 hsorted).2.1).1 i hi;obtain ⟨⟨oj',hoj',hvj,hruns'⟩,hf⟩:=front hoj L1 s (fun i hi oi hoi=>by
    refine hind i j oi oj (hL1 i hi) hoi hoj fun hwaits=>?_
    have h1:=hc.waits hwaits (fun o ho=>by rw [hoj] at ho;cases ho;exact hall)
    have him:i∈unlisted ops listed:=by rw [hL];simp [hi]
    have h2:listed.getD i true=false:=by simpa using (List.mem_filter.1 him).2
    rw [getD_tf (by have:=hL1 i hi;omega)] at h2
    rw [h2] at h1;cases h1) hruns
   rw [hoj] at hoj';cases hoj';have hL':unlisted ops (listed.setIfInBounds j true)=L1++L2:=by
    have e1:unlisted ops (listed.setIfInBounds j true)=(unlisted ops listed).filter (fun i=>i != j):=by
     unfold unlisted;rw [List.filter_filter];refine List.filter_congr fun i hi=>?_;by_cases hij:i=j
     ·subst hij;simp [hsz,hjs]
     ·rw [getD_set_ne true (Ne.symm hij)];simp [hij]
    rw [e1,hL];simp only [List.filter_append,List.filter_cons,bne_self_eq_false,Bool.false_eq_true,if_false];rw [List.filter_eq_self.2 (fun i hi=>by have:=hL1 i hi;simp;omega),List.filter_eq_self.2 (fun i hi=>by have:=hL2 i hi;simp;omega)]
   refine step_ok hN hr hoj (hd j oj hoj) (hgood j oj hoj) hvj fun m' a' w' hr'=>?_;refine ih (listed.setIfInBounds j true) _ m' a' w' (by simp [hsz]) ?_ ?_ (by rw [hL'];exact hruns') ?_ hr'
   ·rw [hL'];rw [hL] at hlen;simp at hlen ⊢;omega
   ·intro k ok hok hk e he hb;by_cases hjk:j=k
    ·subst hjk;rw [hoj] at hok;cases hok;exact getD_set_true (hall e he hb)
    ·rw [getD_set_ne false hjk] at hk;exact getD_set_true (hc k ok hok hk e he hb)
   ·rw [hL',←hfin,hf];simp only [fin,hoj,Option.bind_some]
end
end Go.Sx
namespace Go.Sx
open Go
structure St where
 env:List (Nat×V)
 heap:List (Nat×List Blk)
 used:List Nat
def lookE (env:List (Nat×V)) (t:Nat):V:=match look env t with | some v=>v | none=>.dead
def lookH (heap:List (Nat×List Blk)) (k:Nat):List Blk:=match look heap k with | some b=>b | none=>[]
def St.den (st:St):ASt:={ env:=lookE st.env,heap:=lookH st.heap,used:=fun k=>memB k st.used }
def St.putO (st:St) (d:Option Nat) (v:V):St:=
 match d with
 | some t=>⟨(t,v)::st.env,st.heap,st.used⟩
 | none=>st
def St.ups (st:St):List Up→St
 | []=>st
 | .fresh k blk::us=>St.ups ⟨st.env,(k,[blk])::st.heap,k::st.used⟩ us
 | .upd k i blk::us=>St.ups ⟨st.env,(k,(lookH st.heap k).set i blk)::st.heap,st.used⟩ us
 | .all k l::us=>St.ups ⟨st.env,(k,l)::st.heap,st.used⟩ us
theorem look_cons {α:Type}(k:Nat) (v:α) (l:List (Nat×α)) (t:Nat):look ((k,v)::l) t=if t=k then some v else look l t:=by
 simp only [look];cases hb:Nat.beq k t with
 | true=>rw [if_pos (Nat.eq_of_beq_eq_true hb).symm]
 | false=>rw [if_neg];intro e;rw [e,Nat.beq_refl] at hb;cases hb
theorem St.den_putO (st:St) (d:Option Nat) (v:V):(st.putO d v).den=st.den.putO d v:=by
 cases d with
 | none=>rfl
 | some t =>
  simp only [St.putO,ASt.putO,St.den,ASt.put];congr 1;funext u;simp only [lookE,look_cons];by_cases h:u=t<;>simp [h]
theorem memB_cons (k d:Nat) (l:List Nat):memB d (k::l)=if d=k then true else memB d l:=by
 simp only [memB];cases hb:Nat.beq k d with
 | true=>rw [if_pos (Nat.eq_of_beq_eq_true hb).symm]
 | false=>rw [if_neg];intro e;rw [e,Nat.beq_refl] at hb;cases hb
theorem St.den_ups:∀ (us:List Up) (st:St),(st.ups us).den=st.den.ups us
 | [],_=>rfl
 | .fresh k blk::us,st=>by
  simp only [St.ups,ASt.ups,List.foldl_cons];rw [St.den_ups us];simp only [ASt.ups];congr 1;simp only [St.den,ASt.up,ASt.fresh];congr 1
  ·funext j;simp only [lookH,look_cons];by_cases h:j=k<;>simp [h]
  ·funext j;rw [memB_cons]
 | .upd k i blk::us,st=>by
  simp only [St.ups,ASt.ups,List.foldl_cons];rw [St.den_ups us];simp only [ASt.ups];congr 1;simp only [St.den,ASt.up,ASt.at];congr 1;funext j;simp only [lookH,look_cons];by_cases h:j=k
  ·subst h;simp
  ·simp [h]
 | .all k l::us,st=>by
  simp only [St.ups,ASt.ups,List.foldl_cons];rw [St.den_ups us];simp only [ASt.ups];congr 1;simp only [St.den,ASt.up];congr 1;funext j;simp only [lookH,look_cons];by_cases h:j=k
  ·subst h;simp
  ·simp [h]
def runBool (op:BinOp) (x y:Bool) (K:Kont):Prop:=
 match op with
 | .eql=>K (.bool (x == y)) [] []
 | .neq=>K (.bool (!(x == y))) [] []
 | _=>False
def runBin (op:BinOp) (x y:V) (K:Kont):Prop:=
 match x,y with
 | .int k a,.int k' b=>(match decide (k=k'∨op=.shl∨op=.shr) with | true=>runInt op k a b K | false=>False)
 | .str a,.str b=>runStr op a b K
 | _,_=>False
def runBuiltin (T:List (Nat×TI)) (h:Nat→List Blk) (b:Builtin) (ts:List Nat) (xs:List V) (dst:Option Nat) (K:Kont):Prop:=
 match b,ts,xs with
 | .len,[t],[x]=>runLen T t h x K
 | .append,[t,tx],[x,y]=>runAppend T h dst t tx x y (kontA x K)
 | .clear,[t],[x]=>runClearM T h t x K
 | .max,_,[x,y]=>runMinMax true x y K
 | .min,_,[x,y]=>runMinMax false x y K
 | .delete,[t,t2],[x,k]=>runDelete T h t x k K
 | _,_,_=>False
section
variable {P:Program}{T:List (Nat×TI)}{K:Kont}{N:NB}{o:Oper}{h:Nat→List Blk}{ρ:Operand→V}
end
def runOp [Glob] (P:Program) (N:NB) (T:List (Nat×TI)) (ρ:Operand→V) (h:Nat→List Blk) (o:Oper) (K:Kont):Prop:=
 match o.op with
 | .move x=>K (ρ x) [] []
 | .assign x=>K (ρ x) [] []
 | .pick a b c=>runPick (ρ a) (ρ b) (ρ c) K
 | .alloc e=>runAlloc T o.dst e K
 | .box e x=>runBox T o.dst e (ρ x) K
 | .load t a=>runLoad T t h (ρ a) K
 | .store t a x=>runStore T t h (ρ a) (ρ x) K
 | .nilCheck x=>runNilCheck (ρ x) K
 | .binOp op t x y _=>(match ρ y with
  | .nils=>runNilCmp T op t (ρ x) (ρ y) K
  | .agg _=>∃ v us rd,GoodW P N o ρ h v us rd∧K v us rd
  | .bool b=>(match ρ x,look T t with | .bool a,some ⟨.bool,_,_,_⟩=>runBool op a b K | _,_=>False)
  | _=>runBin op (ρ x) (ρ y) K)
 | .unOp op _ x=>runUn op (ρ x) K
 | .convert s d x=>(match ρ x with
  | .osl _ _ _ _ _=>∃ v us rd,GoodW P N o ρ h v us rd∧K v us rd
  | _=>runConvert T s d (ρ x) K)
 | .makeFunc f a b=>runMakeFunc f (a.toList.map ρ) (b.toList.map ρ) K
 | .fieldAddr t x f=>runFieldAddr T t (ρ x) f K
 | .field t x f=>runField T t (ρ x) f K
 | .indexAddr t x i=>runIndexAddr T t h (ρ x) (ρ i) K
 | .extract x i=>runExtract (ρ x) i K
 | .build t ps=>runBuild T t (ps.toList.map fun p=>(p.1,ρ p.2)) K
 | .buildSlice t len ps=>runBuildSlice T o.dst t len (ps.toList.map fun p=>(p.1,ρ p.2)) (orData K)
 | .makeSlice t x y=>runMakeSlice T o.dst t (ρ x) (ρ y) K
 | .slice t x lo hi mx=>(match mx,hi with
  | some _,none=>False
  | _,_=>runSlice T t h (ρ x) (lo.map ρ) (hi.map ρ) (mx.map ρ) K)
 | .index t x i=>(match look T t with
  | some ⟨.str,_,_,_⟩=>runIndex T t (ρ x) (ρ i) K
  | some ⟨.arr _ _,_,_,_⟩=>(match ρ x with | .str _=>False | _=>runIndex T t (ρ x) (ρ i) K)
  | _=>False)
 | .makeMap t r=>runMakeMap T o.dst t (r.map ρ) K
 | .lookup t x k ok=>(match ρ k with
  | .agg _=>∃ v us rd,GoodW P N o ρ h v us rd∧K v us rd
  | _=>runLookup P T h t (ρ x) (ρ k) ok K)
 | .mapUpdate t x k v=>(match ρ k with
  | .agg _=>∃ v us rd,GoodW P N o ρ h v us rd∧K v us rd
  | _=>runMapUpdate T h t (ρ x) (ρ k) (ρ v) K)
 | .insert t x k v=>runMapUpdate T h t (ρ x) (ρ k) (ρ v) K
 | .range t x=>runRange T h o.dst t (ρ x) K
 | .entry it=>runEntry h (ρ it) K
 | .call c =>
  match c.callee with
  | .builtin b=>runBuiltin T h b c.argTypes.toList (c.args.toList.map ρ) o.dst K
  | _=>∃ v us rd,GoodW P N o ρ h v us rd∧K v us rd
 | _=>False
section
variable {P:Program}{N:NB}{T:List (Nat×TI)}{K:Kont}
theorem two_args {ρ:Operand→V}{l:Array Operand}{x y:V}(h:l.toList.map ρ=[x,y]):∃ x' y',l=#[x',y']∧ρ x'=x∧ρ y'=y:=by
 cases l with
 | mk l=>match l,h with
  | [x',y'],h=>simp at h;exact ⟨x',y',rfl,h.1,h.2⟩
  | [],h=>simp at h
  | [_],h=>simp at h
  | _::_::_::_,h=>simp at h
theorem two_types {l:Array Nat}{x y:Nat}(h:l.toList=[x,y]):l=#[x,y]:=by
 cases l with
 | mk l=>simp at h;rw [h]
theorem runBool_ok [Glob] {h:Nat→List Blk}{ρ:Operand→V}{o:Oper}{op:BinOp}{t t':Nat}{x y:Operand}{n l:Bool}(hop:o.op=.binOp op t x y t') (hu:P.underlying t=some .bool) (hx:ρ x=.bool n) (hy:ρ y=.bool l) (hk:runBool op n l K) :
  ∃ v us rd,GoodV P N o ρ h v us rd∧K v us rd:=by
 have run:∀ {c:Value},(∀ w:World,(binOp op t (.bool n) (.bool l)).run P w=.ok c w)→∀ (Γ:Ctx) (m:MM) (s:ASt) (a:Act) (w:World),Rel Γ m s a w→(∀ x∈o.op.operands,VRel w (Forb Γ m) m (ρ x) (a.eval x))→(execOp a.eval o).run P w=.ok (.value c) w:=by
  intro c hc Γ m s a w hr ho;have h1:=ho x (by simp [hop,Op.operands]);have h2:=ho y (by simp [hop,Op.operands]);rw [hx] at h1;rw [hy] at h2;have h1:=h1.bool_inv;have h2:=h2.bool_inv;have hg:∀ w:World,(eqGuard op t x y (.bool n) (.bool l)).run P w=.ok () w:=fun w=>by
   unfold eqGuard;cases op<;>rfl
  simp [execOp,hop,h1,h2,hg,hc]
 have kind:∀ {r:Bool},∀ (w:World) (F:Nat→Prop) (m:MM),VRel w F m (.bool r) (.bool r):=fun w F m=>.bool _;have he:∀ w:World,(Op.equal t (.bool n) (.bool l)).run P w=.ok (n == l) w:=fun w=>by
  obtain ⟨d,hd⟩:∃ d,Op.maxDepth=d+1:=⟨_,rfl⟩
  unfold Op.equal;rw [hd];simp [Op.equalIn,run_underlying hu]
 unfold runBool at hk;cases op<;>simp only at hk
 case eql=>exact ok_of kind rfl (run fun w=>by simp [binOp,he]) hk
 case neq=>exact ok_of kind rfl (run fun w=>by simp [binOp,he]) hk
theorem runOp_ok [Glob] (hT:TableOK P T) {Γ:Ctx}{m:MM}{s:ASt}{a:Act}{w:World}(hr:Rel Γ m s a w) {o:Oper}(hd:dstOK N o.dst=true) (hk:runOp P N T (evalO s.env) s.heap o K) :
  ∃ v us rd,GoodW P N o (evalO s.env) s.heap v us rd∧K v us rd:=by
 have lift:(∃ v us rd,GoodV P N o (evalO s.env) s.heap v us rd∧K v us rd)→∃ v us rd,GoodW P N o (evalO s.env) s.heap v us rd∧K v us rd:=fun ⟨v,us,rd,h1,h2⟩=>⟨v,us,rd,h1.toW hd,h2⟩
 unfold runOp at hk;split at hk
 ·rename_i x hop;exact lift (runMove_ok (.inl hop) hk)
 ·rename_i x hop;exact lift (runMove_ok (.inr hop) hk)
 ·rename_i x y z hop;exact lift (runPick_ok hop hk)
 ·rename_i e hop;exact lift (runAlloc_ok hT hop hk)
 ·rename_i e x hop;exact lift (runBox_ok hop hk)
 ·rename_i t x hop;exact lift (runLoad_ok hT hop hk)
 ·rename_i t x y hop;exact lift (runStore_ok hT hop hk)
 ·rename_i x hop;exact lift (runNilCheck_ok hop hk)
 ·rename_i op t x y t' hop;split at hk
  ·exact lift (runNilCmp_ok hT hop hk)
  ·exact hk
  ·rename_i b hy;split at hk
   ·rename_i a _ _ _ hx hl;obtain ⟨d,i,z,g1,_,g3,_⟩:=(hT _ _ hl).ex;have:d=.bool:=by cases d<;>simp_all [tkOf]
    exact lift (runBool_ok hop (by rw [g1,this]) hx hy hk)
   ·exact hk.elim
  unfold runBin at hk;split at hk
  ·rename_i k n k' l hx hy;split at hk
   ·rename_i hd;exact lift (runInt_ok hop hx hy (of_decide_eq_true hd) hk)
   ·exact hk.elim
  ·rename_i n l hx hy;exact lift (runStr_ok hop hx hy hk)
  ·exact hk.elim
 ·rename_i op t x hop;exact lift (runUn_ok hop hk)
 ·rename_i s d x hop;split at hk
  ·exact hk
  ·exact lift (runConvert_ok hT hop hk)
 ·rename_i f x y hop;exact lift (runMakeFunc_ok hop hk)
 ·rename_i t x f hop;exact lift (runFieldAddr_ok hT hop hk)
 ·rename_i t x f hop;exact lift (runField_ok hT hop hk)
 ·rename_i t x i hop;exact lift (runIndexAddr_ok hT hop hk)
 ·rename_i x i hop;exact lift (runExtract_ok hop hk)
 ·rename_i t ps hop;exact lift (runBuild_ok hT hop hk)
 ·rename_i t len ps hop;exact lift (orData_ok (runBuildSlice_ok hT hop hk))
 ·rename_i t x y hop;exact lift (runMakeSlice_ok hT hop hk)
 ·rename_i t x lo hi mx hop;split at hk
  ·exact hk.elim
  ·rename_i hne;refine lift (runSlice_ok hT hop (fun hm=>?_) hk);obtain ⟨q,hq⟩:=Option.isSome_iff_exists.1 hm;cases hi with
   | none=>exact absurd rfl (hne q hq)
   | some _=>rfl
 ·rename_i t x i hop;split at hk
  ·rename_i hl;exact lift (runIndex_ok hT hop (fun s _=>⟨_,hl,rfl⟩) hk)
  ·split at hk
   ·exact hk.elim
   ·rename_i hne;exact lift (runIndex_ok hT hop (fun s hs=>absurd hs (hne s)) hk)
  ·exact hk.elim
 ·rename_i t r hop;exact lift (runMakeMap_ok hT hop hk)
 ·rename_i t x k ok hop;split at hk
  ·exact hk
  ·exact lift (runLookup_ok hT hop hk)
 ·rename_i t x k v hop;split at hk
  ·exact hk
  ·exact lift (runMapUpdate_ok hT (.inl hop) hk)
 ·rename_i t x k v hop;exact lift (runMapUpdate_ok hT (.inr hop) hk)
 ·rename_i t x hop;exact lift (runRange_ok hT hop hk)
 ·rename_i it hop;exact lift (runEntry_ok hop hk)
 ·rename_i c hop;split at hk
  ·rename_i b hcal;unfold runBuiltin at hk;split at hk
   ·rename_i t x h1 h2;have ha:∃ y,c.args=#[y]∧evalO s.env y=x:=by
     cases hca:c.args with
     | mk l =>
      rw [hca] at h2;cases l with
      | nil=>simp at h2
      | cons y l =>
       cases l with
       | nil=>simp at h2;exact ⟨y,rfl,h2⟩
       | cons _ _=>simp at h2
    obtain ⟨y,hy,rfl⟩:=ha;have ht:c.argTypes=#[t]:=by
     cases hca:c.argTypes with
     | mk l=>rw [hca] at h1;simp at h1;rw [h1]
    exact lift (runLen_ok hr hT hop hcal hy ht hk)
   ·rename_i t tx x y h1 h2;obtain ⟨x',y',hxy,rfl,rfl⟩:=two_args h2;exact lift (kontA_ok (runAppend_ok hT hop hcal hxy (two_types h1) hk))
   ·rename_i t x h1 h2;have ha:∃ y,c.args=#[y]∧evalO s.env y=x:=by
     cases hca:c.args with
     | mk l =>
      rw [hca] at h2;cases l with
      | nil=>simp at h2
      | cons y l =>
       cases l with
       | nil=>simp at h2;exact ⟨y,rfl,h2⟩
       | cons _ _=>simp at h2
    obtain ⟨y,hy,rfl⟩:=ha;have ht:c.argTypes=#[t]:=by
     cases hca:c.argTypes with
     | mk l=>rw [hca] at h1;simp at h1;rw [h1]
    exact lift (runClearM_ok hT hop hcal hy ht hk)
   ·rename_i x y h2;obtain ⟨x',y',hxy,rfl,rfl⟩:=two_args h2;exact lift (runMinMax_ok (mx:=true) hop hcal hxy hk)
   ·rename_i x y h2;obtain ⟨x',y',hxy,rfl,rfl⟩:=two_args h2;exact lift (runMinMax_ok (mx:=false) hop hcal hxy hk)
   ·rename_i t t2 x k h1 h2;obtain ⟨x',y',hxy,rfl,rfl⟩:=two_args h2;exact lift (runDelete_ok hT hop hcal hxy (two_types h1) hk)
   ·exact hk.elim
  ·exact hk
 ·exact hk.elim
end
abbrev Foot:=List (Nat×List Nat×List Nat)
def disj (a b:List Nat):Bool:=a.all fun k=>match memB k b with | true=>false | false=>true
def masks:List Oper→List Nat→List Nat
 | [],acc=>acc
 | o::os,acc=>masks os (acc++[o.after.toList.foldl (fun s e=>match Region.binds .any e with | true=>s ||| (1 <<< e.on) ||| acc.getD e.on 0 | false=>s) 0])
def waitsB (ms:List Nat) (j i:Nat):Bool:=(ms.getD j 0).testBit i
def okPair (ms:List Nat) (x y:Nat×List Nat×List Nat):Bool:=
 Nat.ble y.1 x.1||waitsB ms y.1 x.1||(disj x.2.1 y.2.1&&disj x.2.1 y.2.2&&disj y.2.1 x.2.2)
def quietFp:Foot→Bool
 | []=>true
 | (_,[],_)::fp=>quietFp fp
 | _=>false
def okFp (ops:List Oper) (fp:Foot):Bool:=
 match quietFp fp with
 | true=>true
 | false=>let ms:=masks ops [];fp.all fun x=>fp.all fun y=>okPair ms x y
def regionOK (N:NB) (l:List Oper):Bool:=
 let ms:=masks l []
 let n:=l.length
 let z:=l.zipIdx
 (l.all fun o=>dstOK N o.dst)&&(z.all fun x=>x.1.after.all fun e=>!Region.binds .any e||Nat.blt e.on x.2) &&
 z.all fun x=>z.all fun y=>Nat.ble y.2 x.2||waitsB ms y.2 x.2||x.1.apart l.toArray y.1
def awpOps [Glob] (P:Program) (N:NB) (T:List (Nat×TI)) (all:List Oper) (draw:Bool):List Oper→Nat→St→Foot→(St→Prop)→Prop
 | [],_,st,fp,K=>match draw with | false=>K st | true=>okFp all fp=true∧K st
 | o::rest,i,st,fp,K =>
  match wantedS all.toArray (lookE st.env) o with
  | none=>False
  | some false=>awpOps P N T all draw rest (i+1) (st.putO o.dst (.tup [])) fp K
  | some true=>runOp P N T (evalO (lookE st.env)) (lookH st.heap) o fun v us rd =>
    match (Up.made us).any fun k=>memB k st.used with
    | true=>False
    | false=>awpOps P N T all draw rest (i+1) ((st.ups us).putO o.dst v) ((i,upSites us,rd)::fp) K
theorem exists_of_wp {P:Program}{o:Oper}{a:Act}{w:World}{K:Act→World→Prop}(h:o.wp P a w K (fun _ _ _=>False)):∃ a' w',K a' w':=by
 unfold Oper.wp at h;generalize (execOp a.eval o).run P w=r at h;cases r with
 | ok n w' =>
  cases n<;>simp only [Oper.upon] at h
  case value v=>exact ⟨_,_,h⟩
  case skip=>exact ⟨_,_,h⟩
  case defer d=>exact ⟨_,_,h⟩
  case enter f args =>
   obtain ⟨e,w'',fr,hR,_⟩:=h [];cases e with
   | returned v=>exact ⟨_,_,hR⟩
   | panicked chain=>exact hR.elim
   | outgrown=>obtain ⟨_,_,hf⟩:=hR;exact hf.elim
  case row r args=>obtain ⟨v,w'',hR,_⟩:=h default [];exact ⟨_,_,hR⟩
 | halt x w'=>cases x<;>simp only [Oper.upon] at h
structure LexRun [Glob] (P:Program) (N:NB) (all:List Oper) (draw:Bool) (i:Nat) (rest:List Oper) (st st':St) (evs:List Ev) (fp fp':Foot):Prop where
 len:evs.length=rest.length
 good:∀ (j:Nat) o ev,rest[j]?=some o→evs[j]?=some ev→ev.run=true→GoodW P N o ev.ρ ev.h ev.v ev.us ev.rd
 foot:∀ (j:Nat) ev,evs[j]?=some ev→ev.run=true→(i+j,upSites ev.us,ev.rd)∈fp'
 fpsub:∀ x∈fp,x∈fp'
 ok:draw=true→okFp all fp'=true
theorem lex_ok [Glob] {P:Program}{N:NB}{T:List (Nat×TI)}(hT:TableOK P T) {all:List Oper}{draw:Bool}{K:St→Prop}{Γ:Ctx}(hN:Γ.N=N) (hds:∀ o∈all,dstOK N o.dst=true) :
  ∀ (rest:List Oper) (i:Nat) (st:St) (fp:Foot) (m:MM) (a:Act) (w:World),(∀ j,rest[j]?=all[i+j]?)→Rel Γ m st.den a w→awpOps P N T all draw rest i st fp K →
   ∃ st' evs fp',LexRun P N all draw i rest st st' evs fp fp'∧K st'∧∀ F:Nat→Ev,(∀ (j:Nat) ev,evs[j]?=some ev→F (i+j)=ev) →
    Runs all.toArray F st.den (List.range' i rest.length)∧fin all.toArray F st.den (List.range' i rest.length)=st'.den
 | [],i,st,fp,m,a,w,_,hr,h=>by
  simp only [awpOps] at h;cases draw with
  | false=>exact ⟨st,[],fp,⟨rfl,by simp,by simp,fun x hx=>hx,by simp⟩,h,fun F _=>⟨trivial,rfl⟩⟩
  | true=>exact ⟨st,[],fp,⟨rfl,by simp,by simp,fun x hx=>hx,fun _=>h.1⟩,h.2,fun F _=>⟨trivial,rfl⟩⟩
 | o::rest,i,st,fp,m,a,w,hall,hr,h=>by
  have ho:all[i]?=some o:=by have:=hall 0;simpa using this.symm
  have hoa:all.toArray[i]?=some o:=by simpa using ho
  have hdo:=hds o (List.mem_of_getElem? ho);have hall':∀ j,rest[j]?=all[i+1+j]?:=fun j=>by have:=hall (j+1);simpa [Nat.add_assoc,Nat.add_comm 1 j] using this
  simp only [awpOps] at h;split at h
  ·exact h.elim
  ·rename_i hw
   let ev:Ev:=⟨false,fun _=>.dead,fun _=>[],.dead,[],[]⟩
   have hv:Valid all.toArray o ev st.den:=⟨hw,by simp [ev],by simp [ev],by simp [ev]⟩
   have hden:st.den.step o.dst ev=(st.putO o.dst (.tup [])).den:=by rw [St.den_putO];rfl
   have hr':Rel Γ m (st.putO o.dst (.tup [])).den (a.put o.dst undef) w:=by
    rw [St.den_putO];exact hr.putO (by rw [hN];exact hdo) (.tup [] [] rfl (fun j v x hj=>by simp at hj)) (by simp [V.sites,sitesL])
   obtain ⟨st',evs,fp',⟨l1,l2,l3,l4,l5⟩,hK,hF⟩:=lex_ok hT hN hds rest (i+1) _ fp m _ w hall' hr' h;refine ⟨st',ev::evs,fp',⟨by simp [l1],fun j o' ev' hj hev hrun=>?_,fun j ev' hev hrun=>?_,l4,l5⟩,hK,fun F hFF=>?_⟩
   ·cases j with
    | zero=>simp at hev;subst hev;cases hrun
    | succ j=>exact l2 j o' ev' (by simpa using hj) (by simpa using hev) hrun
   ·cases j with
    | zero=>simp at hev;subst hev;cases hrun
    | succ j=>have:=l3 j ev' (by simpa using hev) hrun;rwa [show i+(j+1)=i+1+j by omega]
   ·have h0:F i=ev:=by simpa using hFF 0 ev (by simp)
    obtain ⟨g1,g2⟩:=hF F fun j ev' hj=>by have:=hFF (j+1) ev' (by simpa using hj);rwa [show i+(j+1)=i+1+j by omega] at this
    simp only [List.length_cons,List.range'_succ];refine ⟨⟨o,hoa,by rw [h0];exact hv,by rw [h0,hden];exact g1⟩,?_⟩;simp only [fin,hoa,Option.bind_some,h0,hden];exact g2
  ·rename_i hw;obtain ⟨v,us,rd,hg,hk⟩:=runOp_ok hT hr hdo h;split at hk
   ·exact hk.elim
   ·rename_i hmade;have hm:∀ k∈Up.made us,st.den.used k=false:=fun k hk=>by
     have:=List.any_eq_false.1 hmade k hk;simpa [St.den] using this
    let ev:Ev:=⟨true,evalO st.den.env,st.den.heap,v,us,rd⟩
    have hv:Valid all.toArray o ev st.den:=⟨hw,fun _ x _=>rfl,fun _ k _=>rfl,fun _=>hm⟩
    have hden:st.den.step o.dst ev=((st.ups us).putO o.dst v).den:=by rw [St.den_putO,St.den_ups];rfl
    obtain ⟨a',w',m',hr'⟩:=exists_of_wp (hg Γ m st.den a w hN hr (fun x _=>rfl) (fun k _=>rfl) hm);rw [←St.den_ups,←St.den_putO] at hr';obtain ⟨st',evs,fp',⟨l1,l2,l3,l4,l5⟩,hK,hF⟩:=lex_ok hT hN hds rest (i+1) _ _ m' a' w' hall' hr' hk;refine ⟨st',ev::evs,fp',⟨by simp [l1],fun j o' ev' hj hev hrun=>?_,fun j ev' hev hrun=>?_,fun x hx=>l4 x (List.mem_cons_of_mem _ hx),l5⟩,hK,fun F hFF=>?_⟩
    ·cases j with
     | zero=>simp at hev hj;subst hev hj;exact hg
     | succ j=>exact l2 j o' ev' (by simpa using hj) (by simpa using hev) hrun
    ·cases j with
     | zero=>simp at hev;subst hev;exact l4 _ (by simp [ev])
     | succ j=>have:=l3 j ev' (by simpa using hev) hrun;rwa [show i+(j+1)=i+1+j by omega]
    ·have h0:F i=ev:=by simpa using hFF 0 ev (by simp)
     obtain ⟨g1,g2⟩:=hF F fun j ev' hj=>by have:=hFF (j+1) ev' (by simpa using hj);rwa [show i+(j+1)=i+1+j by omega] at this
     simp only [List.length_cons,List.range'_succ];refine ⟨⟨o,hoa,by rw [h0];exact hv,by rw [h0,hden];exact g1⟩,?_⟩;simp only [fin,hoa,Option.bind_some,h0,hden];exact g2
end Go.Sx
namespace Go.Sx
open Go
theorem fold_bits {acc:List Nat}:∀ (es:List Edge) (s:Nat) (i:Nat),
  (es.foldl (fun s e=>match Region.binds .any e with | true=>s ||| (1 <<< e.on) ||| acc.getD e.on 0 | false=>s) s).testBit i=true →
   s.testBit i=true∨∃ e∈es,Region.binds .any e=true∧(i=e.on∨(acc.getD e.on 0).testBit i=true)
 | [],s,i,h=>.inl h
 | e::es,s,i,h=>by
  simp only [List.foldl_cons] at h;rcases fold_bits es _ i h with h1 | ⟨e',he',hb,hi⟩
  ·cases hb:Region.binds .any e with
   | false=>simp only [hb] at h1;exact .inl h1
   | true =>
    simp only [hb,Nat.testBit_or,Bool.or_eq_true] at h1;rcases h1 with (h1 | h1) | h1
    ·exact .inl h1
    ·refine .inr ⟨e,by simp,hb,.inl ?_⟩;rw [Nat.one_shiftLeft,Nat.testBit_two_pow] at h1;simpa using (of_decide_eq_true h1).symm
    ·exact .inr ⟨e,by simp,hb,.inr h1⟩
  ·exact .inr ⟨e',List.mem_cons_of_mem _ he',hb,hi⟩
theorem masks_ok {all:List Oper}:∀ (l:List Oper) (acc:List Nat),(∀ k,l[k]?=all[acc.length+k]?)→(∀ j i,(acc.getD j 0).testBit i=true→Waits all.toArray j i) →
  ∀ j i,((masks l acc).getD j 0).testBit i=true→Waits all.toArray j i
 | [],acc,_,h,j,i,hb=>h j i hb
 | o::os,acc,hl,h,j,i,hb=>by
  have ho:all[acc.length]?=some o:=by have:=hl 0;simpa using this.symm
  simp only [masks] at hb;refine masks_ok os _ (fun k=>?_) (fun j i hji=>?_) j i hb
  ·have:=hl (k+1);simp only [List.length_append,List.length_cons,List.length_nil];simpa [Nat.add_assoc,Nat.add_comm 1 k] using this
  ·rcases Nat.lt_or_ge j acc.length with hj | hj
   ·refine h j i ?_;rw [List.getD_eq_getElem?_getD,List.getElem?_append_left hj,←List.getD_eq_getElem?_getD] at hji;exact hji
   ·rcases Nat.lt_or_ge acc.length j with hj2 | hj2
    ·rw [List.getD_eq_getElem?_getD,List.getElem?_eq_none (by simp;omega)] at hji;simp at hji
    ·have:j=acc.length:=by omega
     subst this;rw [List.getD_eq_getElem?_getD,List.getElem?_append_right (Nat.le_refl _)] at hji;simp only [Nat.sub_self,List.getElem?_cons_zero,Option.getD_some] at hji;rcases fold_bits _ _ _ hji with h1 | ⟨e,he,hb,hi⟩
     ·simp at h1
     ·have hone:Waits all.toArray acc.length e.on:=.one (oj:=o) (by simpa using ho) (by simpa using he) hb;rcases hi with rfl | hi
      ·exact hone
      ·exact .trans hone (h _ _ hi)
theorem waitsB_ok {all:List Oper}{j i:Nat}(h:waitsB (masks all []) j i=true):Waits all.toArray j i:=
 masks_ok all [] (by simp) (fun j i h=>by simp at h) j i h
theorem disj_ok {a b:List Nat}(h:disj a b=true):∀ k∈a,k∉b:=by
 intro k hk hb;have:=List.all_eq_true.1 h k hk;cases hm:memB k b with
 | true=>simp [hm] at this
 | false=>exact memB_false hm hb
theorem quietFp_ok:∀ {fp:Foot},quietFp fp=true→∀ x∈fp,x.2.1=[]
 | [],_,x,hx=>by cases hx
 | (i,[],r)::fp,h,x,hx=>by
  rcases List.mem_cons.1 hx with e | e
  ·subst e;rfl
  ·exact quietFp_ok (fp:=fp) (by simpa [quietFp] using h) x e
 | (i,k::l,r)::fp,h,x,hx=>by simp [quietFp] at h
theorem regionOK_spec {N:NB}{l:List Oper}(h:regionOK N l=true):(∀ o∈l,dstOK N o.dst=true)∧(∀ (i:Nat) o,l.toArray[i]?=some o→∀ e∈o.after,Region.binds .any e=true→e.on<i) ∧
  ∀ (i j:Nat) oi oj,i<j→l.toArray[i]?=some oi→l.toArray[j]?=some oj→¬ Waits l.toArray j i→oi.apart l.toArray oj=true:=by
 unfold regionOK at h;simp only [Bool.and_eq_true] at h;obtain ⟨⟨h1,h2⟩,h3⟩:=h;have hz:∀ (i:Nat) o,l.toArray[i]?=some o→(o,i)∈l.zipIdx:=fun i o ho=>by
  rw [List.mem_zipIdx_iff_getElem?];simpa using ho
 refine ⟨fun o ho=>List.all_eq_true.1 h1 o ho,fun i o ho e he hb=>?_,fun i j oi oj hij hi hj hw=>?_⟩
 ·have:=List.all_eq_true.1 h2 _ (hz i o ho);have:=Array.all_eq_true'.1 this e he;simp only [hb,Bool.not_true,Bool.false_or] at this;exact Nat.le_of_ble_eq_true this
 ·have:=List.all_eq_true.1 (List.all_eq_true.1 h3 _ (hz i oi hi)) _ (hz j oj hj);simp only [Bool.or_eq_true] at this;rcases this with (h4 | h4) | h4
  ·have:=Nat.le_of_ble_eq_true h4;omega
  ·exact absurd (waitsB_ok h4) hw
  ·exact h4
theorem inorder [Glob] {P:Program}{N:NB}{ops:Array Oper}{evs:Nat→Ev}{Γ:Ctx}{Q:Exit→Act→World→Prop}(hN:Γ.N=N) (hd:∀ (i:Nat) o,ops[i]?=some o→dstOK N o.dst=true)
  (hgood:∀ (i:Nat) o,ops[i]?=some o→(evs i).run=true→GoodW P N o (evs i).ρ (evs i).h (evs i).v (evs i).us (evs i).rd) :
  ∀ (L:List Nat) (s:ASt) (m:MM) (a:Act) (w:World),Runs ops evs s L→Rel Γ m s a w→(∀ m a w,Rel Γ m (fin ops evs s L) a w→Q .normal a w)→wpOps P ops Q L a w
 | [],s,m,a,w,_,hr,hQ=>hQ m a w hr
 | i::L,s,m,a,w,⟨o,ho,hv,hruns⟩,hr,hQ=>by
  rw [wpOps_cons];refine step_ok hN hr ho (hd i o ho) (hgood i o ho) hv fun m' a' w' hr'=>?_;exact inorder hN hd hgood L _ m' a' w' hruns hr' fun m a w h=>hQ m a w (by simpa only [fin,ho,Option.bind_some] using h)
theorem region_wp [Glob] {P:Program}{T:List (Nat×TI)}(hT:TableOK P T) (hm:P.follows .mixedOrders=true) {Γ:Ctx}{id:Nat}{ops:Array Oper}{draw:Bool}(hok:regionOK Γ.N ops.toList=true)
    {st:St}{K:St→Prop}(h:awpOps P Γ.N T ops.toList draw ops.toList 0 st [] K) {m:MM}{a:Act}{w:World}(hr:Rel Γ m st.den a w) :
    (Code.region id ops draw).wp P (fun e a' w'=>e=.normal∧∃ st' m',K st'∧Rel Γ m' st'.den a' w') a w:=by
  obtain ⟨k1,k2,k3⟩:=regionOK_spec hok;obtain ⟨st',evs,fp',⟨l1,l2,l3,l4,l5⟩,hK,hF⟩:=lex_ok hT (Γ:=Γ) rfl k1 ops.toList 0 st [] m a w (by simp) hr h
  let F:Nat→Ev:=fun j=>(evs[j]?).getD ⟨false,fun _=>.dead,fun _=>[],.dead,[],[]⟩
  obtain ⟨g1,g2⟩:=hF F (fun j ev hj=>by simp [F,hj]);have harr:ops.toList.toArray=ops:=by simp
  rw [harr] at g1 g2 k2 k3;have hsz:ops.toList.length=ops.size:=by simp
  rw [hsz] at g1 g2;have hd:∀ (i:Nat) o,ops[i]?=some o→dstOK Γ.N o.dst=true:=fun i o ho=>k1 o (by
    have:=Array.mem_of_getElem? ho
    simpa using this)
  have hev:∀ (i:Nat),(F i).run=true→evs[i]?=some (F i):=fun i hrun=>by
    simp only [F] at hrun ⊢;cases he:evs[i]? with
    | none=>rw [he] at hrun;simp at hrun
    | some ev=>simp
  have hgood:∀ (i:Nat) o,ops[i]?=some o→(F i).run=true→GoodW P Γ.N o (F i).ρ (F i).h (F i).v (F i).us (F i).rd:=fun i o ho hrun=>l2 i o _ (by simpa using ho) (hev i hrun) hrun;have hQ:∀ m a w,Rel Γ m st'.den a w→(fun e a' w'=>e=Exit.normal∧∃ st' m',K st'∧Rel Γ m' st'.den a' w') .normal a w:=fun m a w h=>⟨rfl,st',m,hK,h⟩
  cases draw with
  | false =>
    refine wp_region ?_;have hrange:List.range ops.size=List.range' 0 ops.size:=List.range_eq_range';rw [hrange];exact inorder rfl hd hgood _ st.den m a w g1 hr (by rw [g2];exact hQ)
  | true =>
    refine wp_region_any hm ?_;have hul:unlisted ops (Array.replicate ops.size false)=List.range' 0 ops.size:=by
      unfold unlisted;rw [←List.range_eq_range'];refine List.filter_eq_self.2 fun i hi=>?_;have:i<ops.size:=List.mem_range.1 hi;simp [this]
    have hfp:=l5 rfl;refine any_ok (N:=Γ.N) (evs:=F) (sf:=st'.den) rfl k2 hd hgood (fun i j oi oj hij hi hj hw=>⟨k3 i j oi oj hij hi hj hw,?_,?_,?_⟩) hQ ops.size _ st.den m a _ (by simp) (by rw [hul];simp) ?_ (by rw [hul];exact g1) (by rw [hul];exact g2) (hr.sameHeap rfl rfl ⟨rfl,fun _=>by first | exact Nat.le_refl _ | exact Nat.le_succ _⟩ rfl)
    all_goals first
      | (have key:∀ (i j:Nat),i<j→¬ Waits ops j i→(F i).run=true→(F j).run=true→(∀ k∈upSites (F i).us,k∉upSites (F j).us)∧(∀ k∈upSites (F i).us,k∉(F j).rd)∧(∀ k∈upSites (F j).us,k∉(F i).rd):=by
          intro i j hij hw hri hrj
          have m1:=l3 i _ (hev i hri) hri
          have m2:=l3 j _ (hev j hrj) hrj
          rw [Nat.zero_add] at m1 m2
          unfold okFp at hfp
          split at hfp
          · rename_i hq
            have e1:=quietFp_ok hq _ m1
            have e2:=quietFp_ok hq _ m2
            simp only at e1 e2
            rw [e1,e2]
            simp
          · have h1 := List.all_eq_true.1 (List.all_eq_true.1 hfp _ m1) _ m2
            simp only [okPair,Bool.or_eq_true,Bool.and_eq_true] at h1
            rcases h1 with (h1 | h1) | ⟨⟨h1,h2⟩,h3⟩
            · have := Nat.le_of_ble_eq_true h1;omega
            · have := waitsB_ok h1
              rw [harr] at this
              exact absurd this hw
            · exact ⟨disj_ok h1, disj_ok h2, disj_ok h3⟩
         simp only [Ev.ups, Ev.reads]
         cases hri : (F i).run with
         | false => simp [upSites]
         | true =>
           cases hrj : (F j).run with
           | false => simp [upSites]
           | true =>
             obtain ⟨q1, q2, q3⟩ := key i j hij hw hri hrj
             first | exact q1 | exact q2 | exact q3)
      | (intro j oj hoj hl;exfalso
         rcases Nat.lt_or_ge j ops.size with h | h
         · simp [h] at hl
         · simp [h] at hl)
structure W [Glob] (P:Program) (T:List (Nat×TI)) (Γ:Ctx) (c:Code) (Q:Exit→St→Prop) (st:St):Prop where
 out:∀ m a w,Rel Γ m st.den a w→c.wp P (fun e a' w'=>∃ st' m',Q e st'∧Rel Γ m' st'.den a' w') a w
structure Env (P:Program) (T:List (Nat×TI)):Prop where
 table:TableOK P T
 mixed:P.follows .mixedOrders=true
section
variable {P:Program}{T:List (Nat×TI)}{Γ:Ctx}{Q:Exit→St→Prop}{st:St}
theorem W.mono [Glob] {c:Code}{Q':Exit→St→Prop}(h:W P T Γ c Q st) (hq:∀ e s,Q e s→Q' e s):W P T Γ c Q' st:=
 ⟨fun m a w hr=>wp_mono (h.out m a w hr) fun e a' w' ⟨s',m',h1,h2⟩=>⟨s',m',hq _ _ h1,h2⟩⟩
theorem W.skip [Glob] (h:Q .normal st):W P T Γ .skip Q st:=⟨fun m a w hr=>wp_skip ⟨st,m,h,hr⟩⟩
theorem W.exit [Glob] {id:Nat}(h:Q (.exit id) st):W P T Γ (.exit id) Q st:=⟨fun m a w hr=>wp_exit ⟨st,m,h,hr⟩⟩
theorem W.ret [Glob] (h:Q .ret st):W P T Γ .ret Q st:=⟨fun m a w hr=>wp_ret ⟨st,m,h,hr⟩⟩
def thenQ (K:St→Prop) (Q:Exit→St→Prop):Exit→St→Prop
 | .normal,s=>K s
 | e,s=>Q e s
theorem W.seq [Glob] {x y:Code}(h:W P T Γ x (thenQ (fun s=>W P T Γ y Q s) Q) st):W P T Γ (.seq x y) Q st:=
 ⟨fun m a w hr=>wp_seq (wp_mono (h.out m a w hr) fun e a' w' ⟨s',m',h1,h2⟩=>by
  cases e<;>first
   | exact h1.out m' a' w' h2
   | exact ⟨s',m',h1,h2⟩)⟩
theorem W.region [Glob] (hE:Env P T) {id:Nat}{ops:Array Oper}{draw:Bool}(hok:regionOK Γ.N ops.toList=true) (h:awpOps P Γ.N T ops.toList draw ops.toList 0 st [] (fun s=>Q .normal s)):W P T Γ (.region id ops draw) Q st:=
 ⟨fun m a w hr=>wp_mono (region_wp hE.table hE.mixed hok h hr) fun e a' w' ⟨he,s',m',h1,h2⟩=>by subst he;exact ⟨s',m',h1,h2⟩⟩
theorem W.cond [Glob] {c:Operand}{x y:Code}{b:Bool}(hc:evalO (lookE st.env) c=.bool b) (ht:b=true→W P T Γ x Q st) (hf:b=false→W P T Γ y Q st):W P T Γ (.cond c x y) Q st:=
 ⟨fun m a w hr=>by
  have h1:=hr.evalO c
  have h2:evalO st.den.env c=.bool b:=hc
  rw [h2] at h1
  exact wp_cond_split h1.bool_inv (fun hb=>(ht hb).out m a w hr) (fun hb=>(hf hb).out m a w hr)⟩
def blockQ (id:Nat) (Q:Exit→St→Prop):Exit→St→Prop
 | .exit id',s=>match Nat.beq id' id with | true=>Q .normal s | false=>Q (.exit id') s
 | e,s=>Q e s
theorem W.block [Glob] {id:Nat}{c:Code}(h:W P T Γ c (blockQ id Q) st):W P T Γ (.block id c) Q st:=
 ⟨fun m a w hr=>wp_block (wp_mono (h.out m a w hr) fun e a' w' ⟨s',m',h1,h2⟩=>by
  cases e with
  | exit id' =>
   simp only [Exit.inBlock]
   simp only [blockQ] at h1
   split
   ·rename_i e;subst e;rw [Nat.beq_refl] at h1;exact ⟨s',m',h1,h2⟩
   ·rename_i hne
    cases hb:Nat.beq id' id with
    | true=>exact absurd (Nat.eq_of_beq_eq_true hb) hne
    | false=>simp only [hb] at h1;exact ⟨s',m',h1,h2⟩
  | _=>exact ⟨s',m',h1,h2⟩)⟩
inductive Less:V→V→Prop
 | refl (v:V):Less v v
 | dead (v:V):Less v .dead
 | norm (v:V):Less v v.norm
theorem Less.rel {w:World}{F:Nat→Prop}{m:MM}{v v':V}{c:Value}(h:Less v v') (hv:VRel w F m v c):VRel w F m v' c:=by
 cases h with
 | refl=>exact hv
 | dead=>exact .dead _
 | norm=>exact hv.norm
structure Le (s s':St):Prop where
 env:∀ p∈s'.env,Less (lookE s.env p.1) p.2
 sub:∀ k∈s'.used,memB k s.used=true
 sites:∀ p∈s'.env,∀ k∈p.2.sites,memB k s'.used=true
 heap:∀ p∈s'.heap,lookH s.heap p.1=lookH s'.heap p.1∧memB p.1 s'.used=true∧∀ blk∈p.2,blk.within (fun k=>memB k s'.used)
theorem look_mem {α:Type}{l:List (Nat×α)}{t:Nat}{v:α}(h:look l t=some v):(t,v)∈l:=by
 induction l with
 | nil=>simp [look] at h
 | cons p l ih =>
  obtain ⟨k,u⟩:=p;rw [look_cons] at h;split at h
  ·rename_i e;cases h;subst e;simp
  ·exact List.mem_cons_of_mem _ (ih h)
theorem memB_true {d:Nat}{l:List Nat}(h:memB d l=true):d∈l:=by
 induction l with
 | nil=>simp [memB] at h
 | cons k l ih =>
  rw [memB_cons] at h;split at h
  ·rename_i e;simp [e]
  ·exact List.mem_cons_of_mem _ (ih h)
theorem memB_of {d:Nat}{l:List Nat}(h:d∈l):memB d l=true:=by
 induction l with
 | nil=>simp at h
 | cons k l ih =>
  rw [memB_cons];split
  ·rfl
  ·rename_i e;rcases List.mem_cons.1 h with h | h
   ·exact absurd h e
   ·exact ih h
theorem Rel.le [Glob] {m:MM}{s s':St}{a:Act}{w:World}(h:Rel Γ m s.den a w) (hl:Le s s') (hK:∀ k∈Γ.K0,memB k s'.used=true):∃ m',Rel Γ m' s'.den a w:=by
 let m':MM:=fun k i=>match lookH s'.heap k with | []=>none | _=>m k i
 have hheap:∀ k,lookH s'.heap k≠[]→lookH s.heap k=lookH s'.heap k∧memB k s'.used=true∧∀ blk∈lookH s'.heap k,blk.within (fun k=>memB k s'.used):=by
  intro k hk;unfold lookH at hk ⊢;cases hq:look s'.heap k with
  | none=>rw [hq] at hk;simp at hk
  | some b =>
   have:=hl.heap _ (look_mem hq);simp only [lookH,hq] at this;exact this
 have hm':∀ k i x,m' k i=some x→lookH s'.heap k≠[]∧m k i=some x:=by
  intro k i x hx;simp only [m'] at hx;split at hx
  ·cases hx
  ·rename_i hne;exact ⟨hne,hx⟩
 have hmm:∀ k i,lookH s'.heap k≠[]→m' k i=m k i:=by
  intro k i hne;show (match lookH s'.heap k with | []=>none | _=>m k i)=m k i;cases hq:lookH s'.heap k with
  | nil=>exact absurd hq hne
  | cons _ _=>rfl
 have hF:∀ b,b<w.heap.size→Own m' b→Own m b:=fun b _ ⟨k,i,x,hx,hn,hb⟩=>⟨k,i,x,(hm' k i x hx).2,hn,hb⟩
 have hd:∀ b,b<w.heap.size→¬ Forb Γ m b→w.heap[b]?=w.heap[b]?∧¬ Forb Γ m' b:=fun b hb hn=>⟨rfl,fun hf=>hn (hf.imp id (hF b hb))⟩
 have hms:∀ k i x',m' k i=some x'→∃ x,m k i=some x∧Adv x x':=fun k i x' hx=>⟨x',(hm' k i x' hx).2,.inl rfl⟩
 have hv:∀ {v c},VRel w (Forb Γ m) m v c→VRel w (Forb Γ m') m' v c:=fun hv=>hv.mono hd (Nat.le_refl _) (fun _ _ _ h=>h) hms;refine ⟨m',h.size,h.pin,h.defers,fun t=>?_,fun k i=>?_,fun k i blk hb=>?_,fun k i x k' i' x' hx hx'=>h.inj k i x k' i' x' (hm' _ _ _ hx).2 (hm' _ _ _ hx').2,fun k i x hx=>h.fr k i x (hm' _ _ _ hx).2,h.frw,fun k hk i x hx=>h.keep k hk i x (hm' _ _ _ hx).2,h.ext,
  fun t k hk=>?_,fun k hk=>(hheap k hk).2.1,fun k i blk hb=>?_,hK,h.glob.tr hd (Nat.le_refl _)⟩
 ·simp only [St.den,lookE];cases hq:look s'.env t with
  | none=>exact .dead _
  | some v=>exact (hl.env _ (look_mem hq)).rel (hv (h.env t))
 ·simp only [St.den];by_cases hne:lookH s'.heap k=[]
  ·simp [m',hne]
  ·rw [hmm k i hne,←(hheap k hne).1];exact h.dom k i
 ·have hne:lookH s'.heap k≠[]:=by intro e;simp only [St.den] at hb;rw [e] at hb;simp at hb
  obtain ⟨x,hx,hB⟩:=h.heap k i blk (by simp only [St.den] at hb ⊢;rw [(hheap k hne).1];exact hb);refine ⟨x,by rw [hmm k i hne];exact hx,hB.on (U:=fun k=>memB k s'.used) hd (Nat.le_refl _) (fun _ _ _ h=>h) (fun k _ i x' hx=>hms k i x' hx) ((hheap k hne).2.2 blk (List.mem_of_getElem? hb)) (fun _=>rfl)⟩
 ·simp only [St.den,lookE] at hk ⊢;cases hq:look s'.env t with
  | none=>rw [hq] at hk;simp [V.sites] at hk
  | some v=>rw [hq] at hk;exact hl.sites _ (look_mem hq) k hk
 ·have hne:lookH s'.heap k≠[]:=by intro e;simp only [St.den] at hb;rw [e] at hb;simp at hb
  exact (hheap k hne).2.2 blk (List.mem_of_getElem? hb)
theorem W.le [Glob] {c:Code}{st':St}(hl:Le st st') (hK:∀ k∈Γ.K0,memB k st'.used=true) (h:W P T Γ c Q st'):W P T Γ c Q st:=
 ⟨fun m a w hr=>let ⟨m',hr'⟩:=hr.le hl hK;h.out m' a w hr'⟩
theorem wp_loop_ghost {c:Code}{Q:Exit→Act→World→Prop}(J:Nat→Act→World→Prop) {n₀:Nat}{a:Act}{w:World}(h₀:J n₀ a w)
  (round:∀ n a w,J n a w→c.wp P (Exit.then (fun a' w'=>∃ n',n' < n∧J n' a' w') Q) a w):(Code.loop c).wp P Q a w:=by
 intro b k cs;have key:∀ n a w,J n a w→∃ e a' w',Q e a' w'∧Arrives P (lone (b.at a (.code c::.inLoop c::k)) cs w) b k cs e a' w':=by
  intro n
  induction n using Nat.strongRecOn with
  | _ n ih =>
   intro a w hI;obtain ⟨e,a₁,w₁,hq,harr⟩:=round n a w hI b (.inLoop c::k) cs;cases e with
   | normal =>
    obtain ⟨n',hlt,hI₁⟩:=hq;obtain ⟨e₂,a₂,w₂,hq₂,harr₂⟩:=ih n' hlt a₁ w₁ hI₁;exact ⟨e₂,a₂,w₂,hq₂,.of_steps (Steps.trans harr (.one step_inLoop)) harr₂⟩
   | exit id=>exact ⟨_,a₁,w₁,hq,.pass (x:=.inLoop c) rfl (fun _ _=>.inl (by simp)) harr⟩
   | goto l=>exact ⟨_,a₁,w₁,hq,.pass (x:=.inLoop c) rfl (fun _ _=>.inl (by simp)) harr⟩
   | ret=>exact ⟨_,a₁,w₁,hq,.pass (x:=.inLoop c) rfl (fun _ _=>.inl (by simp)) harr⟩
   | panic ch=>exact ⟨_,a₁,w₁,hq,.pass (x:=.inLoop c) rfl (fun _ _=>.inl (by simp)) harr⟩
   | outgrown=>exact ⟨_,a₁,w₁,hq,.pass (x:=.inLoop c) rfl (fun _ _=>.inl (by simp)) harr⟩
 obtain ⟨e,a',w',hq,harr⟩:=key _ a w h₀;exact ⟨e,a',w',hq,.of_steps (.one step_loop) harr⟩
theorem W.loop [Glob] {c:Code}(I:Nat→St→Prop) (hK:∀ n s,I n s→∀ k∈Γ.K0,memB k s.used=true) (n₀:Nat) (s₀:St) (h₀:I n₀ s₀) (hl:Le st s₀)
    (round:∀ n s,I n s→W P T Γ c (thenQ (fun s1=>∃ n' s2,n' < n∧I n' s2∧Le s1 s2) Q) s):W P T Γ (.loop c) Q st:=by
  refine ⟨fun m a w hr=>?_⟩;obtain ⟨m0,hr0⟩:=hr.le hl (hK _ _ h₀);refine wp_loop_ghost (fun n a w=>∃ s m,I n s∧Rel Γ m s.den a w) (n₀:=n₀) ⟨s₀,m0,h₀,hr0⟩ fun n a w ⟨s,m,hs,hr⟩=>?_;refine wp_mono ((round _ s hs).out m a w hr) fun e a' w' ⟨s',m',h1,h2⟩=>?_;cases e<;>first
    | (obtain ⟨n', s2, hn, hI2, hle⟩ := h1
       obtain ⟨m2, hr2⟩ := h2.le hle (hK _ _ hI2)
       exact ⟨n',hn,s2,m2,hI2,hr2⟩)
    | exact ⟨s',m',h1,h2⟩
end
end Go.Sx
namespace Go.Sx
open Go
def keys (h:List (Nat×Blk)):List Nat:=h.map (·.1)
def heapL (h:List (Nat×Blk)):List (Nat×List Blk):=h.map fun p=>(p.1,[p.2])
def FrO (Fr:Nat→Prop) (m:MM) (b:Nat):Prop:=Fr b∨Own m b
theorem lookH_heapL (h:List (Nat×Blk)) (k:Nat):lookH (heapL h) k=match look h k with | some b=>[b] | none=>[]:=by
 induction h with
 | nil=>rfl
 | cons p h ih =>
  obtain ⟨j,b⟩:=p;simp only [heapL,List.map_cons,lookH,look_cons] at ih ⊢;by_cases hk:k=j
  ·simp [hk]
  ·simp only [hk,if_false];exact ih
structure HRel [Glob] (Fr:Nat→Prop) (m:MM) (h:List (Nat×Blk)) (w:World):Prop where
 dom:∀ k i,(m k i).isSome=true↔i<(lookH (heapL h) k).length
 blk:∀ k (i:Nat) blk,(lookH (heapL h) k)[i]?=some blk→∃ x,m k i=some x∧BRel w (FrO Fr m) m x blk
 inj:∀ k i x k' i' x',m k i=some x→m k' i'=some x'→x.nil=false→x'.nil=false→x.b=x'.b→k=k'∧i=i'
 fr:∀ k i x,m k i=some x→x.nil=false→¬ Fr x.b∧x.b<w.heap.size
 within:∀ p∈h,p.2.within (fun k=>memB k (keys h))
 glob:GRel w (FrO Fr m)
structure Spec [Glob] (P:Program) (f:Nat) (args:List V) (hin:List (Nat×Blk)) (v:V) (hout:List (Nat×Blk)):Prop where
 enter:∀ (cargs:Array Value) (w:World),(callFunc f cargs).run P w=.ok (.enter f cargs) w
 calls:∀ (Fr:Nat→Prop) (m:MM) (w:World) (cargs:List Value),cargs.length=args.length→(∀ b,Fr b→b<w.heap.size)→HRel Fr m hin w →
  (∀ (j:Nat) u c,args[j]?=some u→cargs[j]?=some c→VRel w (FrO Fr m) m u c)→(∀ u∈args,∀ k∈u.sites,memB k (keys hin)=true) →
  Calls P f cargs.toArray w fun e w'=>∃ cv m',e=.returned cv∧VRel w' (FrO Fr m') m' v cv∧HRel Fr m' hout w'∧(∀ k i x,m' k i=some x→x.nil=false→Own m x.b∨w.heap.size≤x.b) ∧
   (∀ k,memB k (keys hin)=true→∀ i x,m' k i=some x→∃ x0,m k i=some x0∧Adv x0 x)∧Ext (Own m) w w'
def envFrom:Nat→List V→List (Nat×V)
 | _,[]=>[]
 | i,v::vs=>(i,v)::envFrom (i+1) vs
theorem look_envFrom:∀ (vs:List V) (i t:Nat),look (envFrom i vs) t=if i≤t then vs[t-i]? else none
 | [],i,t=>by simp [envFrom,look]
 | v::vs,i,t=>by
  simp only [envFrom,look_cons,look_envFrom vs];by_cases h:t=i
  ·subst h;simp
  ·by_cases h1:i+1≤t
   ·rw [if_neg h,if_pos h1,if_pos (by omega),show t-i=(t-(i+1))+1 by omega];simp
   ·rw [if_neg h,if_neg h1,if_neg (by omega)]
def resV (T:List (Nat×TI)) (st:St):ResultVar→Option V
 | .tmp t=>some (lookE st.env t)
 | .cell a t =>
  match look T t with
  | none=>none
  | some ti =>
   match lookE st.env a with
   | .bp s o=>match lookH st.heap s with
    | [.rows _ [row] _]=>part ti row o
    | _=>none
   | _=>none
def resL (T:List (Nat×TI)) (st:St):List ResultVar→Option (List V)
 | []=>some []
 | r::rs=>match resV T st r with
  | none=>none
  | some v=>match resL T st rs with
   | none=>none
   | some vs=>some (v::vs)
def one?:List V→V
 | [v]=>v
 | vs=>.tup vs
def resSem (a:Act) (r:ResultVar):Sem Value:=match r with | .tmp t=>pure (a.tmps.getD t undef) | .cell x t=>do loadVar t (← asAddr (a.tmps.getD x undef))
theorem run_resV [Glob] {P:Program}{T:List (Nat×TI)}(hT:TableOK P T) {Γ:Ctx}{m:MM}{st:St}{a:Act}{w:World}(hr:Rel Γ m st.den a w) {r:ResultVar}{v:V}(hv:resV T st r=some v) :
  ∃ c,(resSem a r).run P w=.ok c w∧VRel w (Forb Γ m) m v c∧∀ k∈v.sites,memB k st.used=true:=by
 cases r with
 | tmp t =>
  simp only [resV,Option.some.injEq] at hv;subst hv;exact ⟨_,by simp [resSem],hr.env t,hr.useE t⟩
 | cell x t =>
  simp only [resV] at hv;split at hv
  ·cases hv
  ·rename_i ti hti;split at hv
   ·rename_i s o hx;split at hv
    ·rename_i sz row ks hh;have hvx:=hr.env x;have hx':st.den.env x=.bp s o:=hx;rw [hx'] at hvx;have hh':st.den.heap s=[.rows sz [row] ks]:=hh;obtain ⟨y,hy,hn,hc,hB⟩:=hr.bp_inv hvx hh';have hra:=hB.rowAt (r:=0) (row:=row) rfl;simp only [Nat.zero_mul,Nat.add_zero] at hra;obtain ⟨c,h1,h2⟩:=run_loadVar' (hT _ _ hti) hra hv;refine ⟨c,by simp [resSem,hc,asAddr,h1],h2,fun k hk=>?_⟩;obtain ⟨u,hu,hk⟩:=part_sites hv k hk;exact hr.rowSites (k:=s) (i:=0) (r:=0) (by rw [hh'];rfl) hB rfl u hu k hk
    ·cases hv
   ·cases hv
theorem run_resL [Glob] {P:Program}{T:List (Nat×TI)}(hT:TableOK P T) {Γ:Ctx}{m:MM}{st:St}{a:Act}{w:World}(hr:Rel Γ m st.den a w):∀ (rs:List ResultVar) (vs:List V),resL T st rs=some vs →
  ∃ cs:List Value,(rs.mapM (resSem a)).run P w=.ok cs w∧cs.length=vs.length ∧
   (∀ (j:Nat) v c,vs[j]?=some v→cs[j]?=some c→VRel w (Forb Γ m) m v c)∧∀ v∈vs,∀ k∈v.sites,memB k st.used=true
 | [],vs,h=>by simp [resL] at h;subst h;exact ⟨[],by simp,rfl,by simp,by simp⟩
 | r::rs,vs,h=>by
  simp only [resL] at h;split at h
  ·cases h
  ·rename_i v hv;split at h
   ·cases h
   ·rename_i vs' hvs;cases h;obtain ⟨c,h1,h2,h3⟩:=run_resV hT hr hv;obtain ⟨cs,g1,g2,g3,g4⟩:=run_resL hT hr rs vs' hvs;refine ⟨c::cs,by simp [List.mapM_cons,h1,g1],by simp [g2],fun j u x hj hx=>?_,fun u hu=>?_⟩
    ·cases j with
     | zero=>simp at hj hx;subst hj hx;exact h2
     | succ j=>exact g3 j u x (by simpa using hj) (by simpa using hx)
    ·rcases List.mem_cons.1 hu with e | e
     ·subst e;exact h3
     ·exact g4 u e
def RetQ (T:List (Nat×TI)) (fn:Func) (v:V) (hout:List (Nat×Blk)):Exit→St→Prop:=fun e st =>
 (match e with | .normal=>True | .ret=>True | _=>False)∧∃ rs,resL T st fn.results.toList=some rs∧Le ⟨[(0,one? rs)],st.heap,st.used⟩ ⟨[(0,v)],heapL hout,keys hout⟩
theorem Spec.body [Glob] {P:Program}{T:List (Nat×TI)}(hE:Env P T) {f:Nat}{fn:Func}{c:Code}(hf:P.funcs[f]?=some fn) (hb:fn.body=some c) (hname:(fn.name == "runtime.NumGoroutine")=false)
  {args:List V}{hin:List (Nat×Blk)}{v:V}{hout:List (Nat×Blk)}(hN:args.length≤fn.ntmps) (hK0:∀ k,memB k (keys hin)=true→memB k (keys hout)=true)
  (hw:∀ Γ:Ctx,Γ.N=fn.ntmps→Γ.K0=keys hin→W P T Γ c (RetQ T fn v hout) ⟨envFrom 0 args,heapL hin,keys hin⟩):Spec P f args hin v hout:=by
 have hname':¬ fn.name="runtime.NumGoroutine":=by simpa using hname
 refine ⟨fun cargs w=>by simp [callFunc,hf,hname',hb],fun Fr m w cargs hl hFr hH hv hs=>?_⟩;refine calls_of_wp hf hb ?_
 let Γ:Ctx:=⟨w,Own m,Fr,m,keys hin,(fn.ntmps:Nat),fun _=>undef⟩
 have hFF:Forb Γ m=FrO Fr m:=rfl;have hr:Rel Γ m (St.den ⟨envFrom 0 args,heapL hin,keys hin⟩) { tmps:=cargs.toArray++Array.replicate (fn.ntmps-cargs.toArray.size) undef,defers:=[] } w:=by
  refine ⟨by simp [Γ];omega,fun t ht=>(by cases ht),rfl,fun t=>?_,hH.dom,hH.blk,hH.inj,fun k i x hx hn=>⟨(hH.fr k i x hx hn).1,(hH.fr k i x hx hn).2,.inl ⟨k,i,x,hx,hn,rfl⟩⟩,fun b hb=>⟨hFr b hb,fun ⟨k,i,x,hx,hn,e⟩=>(hH.fr k i x hx hn).1 (e ▸ hb)⟩,
   fun k _ i x hx=>⟨x,hx,.inl rfl⟩,Ext.refl _ _,fun t k hk=>?_,fun k hk=>?_,fun k i blk hb=>?_,fun k hk=>memB_of hk,hH.glob⟩
  ·simp only [St.den,lookE,look_envFrom,Nat.zero_le,if_true,Nat.sub_zero];cases ha:args[t]? with
   | none=>exact .dead _
   | some u =>
    have hlt:t<args.length:=(List.getElem?_eq_some_iff.1 ha).1;have hc:cargs[t]?=some cargs[t]:=List.getElem?_eq_getElem (by omega);have:=hv t u _ ha hc;rw [hFF];have hg:(cargs.toArray++Array.replicate (fn.ntmps-cargs.toArray.size) undef).getD t undef=cargs[t]:=by
     rw [Array.getD_eq_getD_getElem?,Array.getElem?_append_left (by simp;omega)];simp [hl,hlt]
    simp only;rw [hg];exact this
  ·simp only [St.den,lookE,look_envFrom,Nat.zero_le,if_true,Nat.sub_zero] at hk;cases ha:args[t]? with
   | none=>rw [ha] at hk;simp [V.sites] at hk
   | some u=>rw [ha] at hk;exact hs u (List.mem_of_getElem? ha) k hk
  ·simp only [St.den,lookH_heapL] at hk ⊢;cases hq:look hin k with
   | none=>rw [hq] at hk;simp at hk
   | some b=>exact memB_of (List.mem_map.2 ⟨_,look_mem hq,rfl⟩)
  ·simp only [St.den,lookH_heapL] at hb;cases hq:look hin k with
   | none=>rw [hq] at hb;simp at hb
   | some b =>
    rw [hq] at hb;cases i with
    | zero=>simp at hb;subst hb;exact hH.within _ (look_mem hq)
    | succ i=>simp at hb
 have hfin:∀ (a':Act) (w':World) (st':St) (m':MM) (rs:List V),resL T st' fn.results.toList=some rs→Le ⟨[(0,one? rs)],st'.heap,st'.used⟩ ⟨[(0,v)],heapL hout,keys hout⟩→Rel Γ m' st'.den a' w' →
   a'.defers=[]∧∃ cv,(results fn a'.tmps).run P w'=.ok cv w'∧∃ cv' m',Ending.returned cv=.returned cv'∧VRel w' (FrO Fr m') m' v cv'∧HRel Fr m' hout w'∧(∀ k i x,m' k i=some x→x.nil=false→Own m x.b∨w.heap.size≤x.b) ∧
   (∀ k,memB k (keys hin)=true→∀ i x,m' k i=some x→∃ x0,m k i=some x0∧Adv x0 x)∧Ext (Own m) w w':=by
  intro a' w' st' m' rs hrs hle hr';obtain ⟨cs,h1,h2,h3,h4⟩:=run_resL hE.table hr' _ _ hrs;have hrun:(results fn a'.tmps).run P w'=.ok (if h:cs.toArray.size=1 then cs.toArray[0] else .tuple cs.toArray) w':=by
   have hma:(fn.results.mapM (resSem a')).run P w'=.ok cs.toArray w':=by
    rw [Array.mapM_eq_mapM_toList,Sem.run_map,h1];rfl
   have hres:results fn a'.tmps=(do let vs ← fn.results.mapM (resSem a');pure (if h:vs.size=1 then vs[0] else .tuple vs)):=by
    unfold results;congr 1
   rw [hres];simp only [Sem.run_bind];rw [hma];rfl
  refine ⟨hr'.defers,_,hrun,?_⟩;have hone:VRel w' (Forb Γ m') m' (one? rs) (if h:cs.toArray.size=1 then cs.toArray[0] else .tuple cs.toArray):=by
   match rs,cs,h2,h3 with
   | [],[],_,_=>exact .tup [] [] rfl (by simp)
   | [v],[c],_,h3=>exact h3 0 v c rfl rfl
   | v::v2::vs,c::c2::cs,h2,h3=>exact .tup _ _ h2.symm h3
  have hone':(one? rs).sites=[]∨True:=.inr trivial;have hsites:∀ k∈(one? rs).sites,memB k st'.used=true:=by
   intro k hk
   match rs,h4,hk with
   | [],_,hk=>simp [one?,V.sites,sitesL] at hk
   | [v],h4,hk=>exact h4 v (by simp) k hk
   | v::v2::vs,h4,hk =>
    simp only [one?,V.sites,sitesL_eq,List.mem_flatMap] at hk;obtain ⟨u,hu,hk⟩:=hk;exact h4 u hu k hk
  let Γ':Ctx:=⟨w,Own m,Fr,m,keys hin,(1:Nat),fun _=>undef⟩
  generalize hcv:(if h:cs.toArray.size=1 then cs.toArray[0] else Value.tuple cs.toArray)=cv at hone;have hr2:Rel Γ' m' (St.den ⟨[(0,one? rs)],st'.heap,st'.used⟩) { tmps:=#[cv],defers:=[] } w':=by
   refine ⟨rfl,fun t ht=>(by cases ht),rfl,fun t=>?_,hr'.dom,hr'.heap,hr'.inj,hr'.fr,hr'.frw,hr'.keep,hr'.ext,fun t k hk=>?_,hr'.useH,hr'.useB,hr'.useK,hr'.glob⟩
   ·simp only [St.den,lookE,look_cons];by_cases ht:t=0
    ·subst ht;exact hone
    ·simp only [ht,if_false,look];exact .dead _
   ·simp only [St.den,lookE,look_cons] at hk;by_cases ht:t=0
    ·subst ht;exact hsites k hk
    ·simp only [ht,if_false,look] at hk;simp [V.sites] at hk
  obtain ⟨m2,hr3⟩:=hr2.le hle (fun k hk=>hK0 k (memB_of hk));have hFF2:Forb Γ' m2=FrO Fr m2:=rfl;refine ⟨cv,m2,rfl,?_,⟨hr3.dom,hr3.heap,hr3.inj,fun k i x hx hn=>⟨(hr3.fr k i x hx hn).1,(hr3.fr k i x hx hn).2.1⟩,fun p hp=>?_,hr3.glob⟩,fun k i x hx hn=>(hr3.fr k i x hx hn).2.2,fun k hk i x hx=>hr3.keep k (memB_true hk) i x hx,hr3.ext⟩
  ·exact hr3.env 0
  ·have:=hle.heap (p.1,[p.2]) (List.mem_map.2 ⟨p,hp,rfl⟩);exact this.2.2 p.2 (by simp)
 refine wp_mono ((hw Γ rfl rfl).out m _ w hr) fun e a' w' ⟨st',m',⟨he,rs,hrs,hle⟩,hr'⟩=>?_;obtain ⟨hd,cv,h1,h2⟩:=hfin a' w' st' m' rs hrs hle hr';cases e<;>first
  | exact he.elim
  | exact ⟨hd,cv,h1,h2⟩
attribute [irreducible] RetQ
theorem tok_of {P:Program}{t:Nat}{ti:TI}(h:((P.underlying t).bind fun d=>(P.info? t).bind fun i=>i.zero.map fun z=>(tkOf d,i.size,i.bytes,z.cells.toList.map constV,z.cells.size,(z.cells.all fun c=>c.oneCell'),(z.cells.toList.map constV).all V.one))=some (ti.k,ti.sz,ti.bytes,ti.zero,ti.sz,true,true)):TOK P t ti:=by
 cases hd:P.underlying t with
 | none=>rw [hd] at h;cases h
 | some d =>
  cases hi:P.info? t with
  | none=>rw [hd,hi] at h;cases h
  | some i =>
   cases hz:i.zero with
   | none=>rw [hd,hi] at h;simp [hz] at h
   | some z =>
    rw [hd,hi] at h;simp only [Option.bind_some,hz,Option.map_some,Option.some.injEq,Prod.mk.injEq] at h;obtain ⟨h1,h2,h3,h4,h5,h6,h7⟩:=h;exact ⟨d,i,z,hd,hi,h1,h2,h3,hz,h4.symm,h5,h6,by rw [←h4];exact h7⟩
theorem table_nil {P:Program}:TableOK P []:=fun t ti h=>by simp [look] at h
theorem table_cons {P:Program}{k:Nat}{v:TI}{l:List (Nat×TI)}(h:TOK P k v) (hl:TableOK P l):TableOK P ((k,v)::l):=fun t ti ht=>by
 rw [look_cons] at ht;split at ht
 ·rename_i e;cases ht;subst e;exact h
 ·exact hl t ti ht
def forceL:List V→(List V→Prop)→Prop
 | [],K=>K []
 | v::l,K=>forceL l fun l'=>K (v::l')
theorem forceL_eq:∀ (l:List V) (K:List V→Prop),forceL l K=K l
 | [],_=>rfl
 | v::l,K=>by simp only [forceL];rw [forceL_eq l]
def forceV (v:V) (K:V→Prop):Prop:=
 match v with
 | .dead=>K .dead
 | .bool b=>K (.bool b)
 | .int k n=>K (.int k n)
 | .str s=>K (.str s)
 | .nilp=>K .nilp
 | .bp s o=>K (.bp s o)
 | .pel s i r o n=>K (.pel s i r o n)
 | .ro row o=>K (.ro row o)
 | .sl rows full=>K (.sl rows full)
 | .osl s i o l n=>K (.osl s i o l n)
 | .nils=>K .nils
 | .agg cs=>forceL cs fun cs'=>K (.agg cs')
 | .tup vs=>forceL vs fun vs'=>K (.tup vs')
 | .fn f caps=>K (.fn f caps)
 | .nilf=>K .nilf
 | .iface t u=>K (.iface t u)
 | .nili=>K .nili
 | .omap s i=>K (.omap s i)
 | .oslc s i o l n cap=>K (.oslc s i o l n cap)
 | .nilm=>K .nilm
 | .sle=>K .sle
 | .dmap rows=>K (.dmap rows)
theorem forceV_eq (v:V) (K:V→Prop):forceV v K=K v:=by
 cases v<;>simp only [forceV,forceL_eq]
def putK (d:Option Nat) (v:V) (env:List (Nat×V)) (K:List (Nat×V)→Prop):Prop:=
 match d with
 | some t=>K ((t,v)::env)
 | none=>K env
def forceR:List (List V)→(List (List V)→Prop)→Prop
 | [],K=>K []
 | r::rs,K=>forceL r fun r'=>forceR rs fun rs'=>K (r'::rs')
theorem forceR_eq:∀ (l:List (List V)) (K:List (List V)→Prop),forceR l K=K l
 | [],_=>rfl
 | r::rs,K=>by simp only [forceR,forceL_eq];rw [forceR_eq rs]
def forceB (b:Blk) (K:Blk→Prop):Prop:=
 match b with
 | .rows sz rows none=>forceR rows fun rows'=>K (.rows sz rows' none)
 | .rows sz rows ks=>K (.rows sz rows ks)
 | .map es clock ks=>K (.map es clock ks)
 | .iter s i clock seen=>K (.iter s i clock seen)
 | .gone=>K .gone
theorem forceB_eq (b:Blk) (K:Blk→Prop):forceB b K=K b:=by
 unfold forceB;split<;>simp only [forceR_eq]
def setK (l:List Blk) (i:Nat) (b:Blk) (A:List Blk→Prop):Prop:=
 match l,i with
 | [_],0=>A [b]
 | l,i=>A (l.set i b)
theorem setK_eq (l:List Blk) (i:Nat) (b:Blk) (A:List Blk→Prop):setK l i b A=A (l.set i b):=by
 unfold setK;split<;>rfl
def upsK:List Up→List (Nat×List Blk)→List Nat→(List (Nat×List Blk)→List Nat→Prop)→Prop
 | [],h,u,K=>K h u
 | .fresh k b::us,h,u,K=>forceB b fun b'=>upsK us ((k,[b'])::h) (k::u) K
 | .upd k i b::us,h,u,K=>forceB b fun b'=>setK (lookH h k) i b' fun l=>upsK us ((k,l)::h) u K
 | .all k l::us,h,u,K=>upsK us ((k,l)::h) u K
theorem upsK_eq:∀ (us:List Up) (env:List (Nat×V)) (h:List (Nat×List Blk)) (u:List Nat) (K:List (Nat×List Blk)→List Nat→Prop),upsK us h u K=K (St.ups ⟨env,h,u⟩ us).heap (St.ups ⟨env,h,u⟩ us).used
 | [],_,_,_,_=>rfl
 | .fresh k b::us,env,h,u,K=>by simp only [upsK,forceB_eq,St.ups];rw [upsK_eq us env]
 | .upd k i b::us,env,h,u,K=>by
  simp only [upsK,forceB_eq,setK_eq,St.ups];rw [upsK_eq us env]
 | .all k b::us,env,h,u,K=>by
  simp only [upsK,St.ups];rw [upsK_eq us env]
theorem ups_env':∀ (us:List Up) (st:St),(st.ups us).env=st.env
 | [],_=>rfl
 | .fresh k b::us,st=>by simp only [St.ups];rw [ups_env' us]
 | .upd k i b::us,st=>by simp only [St.ups];rw [ups_env' us]
 | .all k b::us,st=>by simp only [St.ups];rw [ups_env' us]
def ev [Glob] (P:Program) (N:NB) (T:List (Nat×TI)) (all:List Oper) (draw:Bool):List Oper→Nat→List (Nat×V)→List (Nat×List Blk)→List Nat→Foot→(St→Prop)→Prop
 | [],_,env,heap,used,fp,K=>match draw with | false=>K ⟨env,heap,used⟩ | true=>okFp all fp=true∧K ⟨env,heap,used⟩
 | o::rest,i,env,heap,used,fp,K =>
  match wantedS all.toArray (lookE env) o with
  | none=>False
  | some false=>putK o.dst (.tup []) env fun env'=>ev P N T all draw rest (i+1) env' heap used fp K
  | some true=>runOp P N T (evalO (lookE env)) (lookH heap) o fun v us rd =>
    match (Up.made us).any fun k=>memB k used with
    | true=>False
    | false=>forceV v fun v'=>upsK us heap used fun heap' used'=>putK o.dst v' env fun env'=>ev P N T all draw rest (i+1) env' heap' used' ((i,upSites us,rd)::fp) K
theorem ev_eq [Glob] (P:Program) (N:NB) (T:List (Nat×TI)) (all:List Oper) (draw:Bool) (K:St→Prop):∀ (rest:List Oper) (i:Nat) (env:List (Nat×V)) (heap:List (Nat×List Blk)) (used:List Nat) (fp:Foot),
  ev P N T all draw rest i env heap used fp K=awpOps P N T all draw rest i ⟨env,heap,used⟩ fp K
 | [],_,_,_,_,_=>rfl
 | o::rest,i,env,heap,used,fp=>by
  have hput:∀ (v:V) (st:St) (K':List (Nat×V)→Prop),putK o.dst v st.env K'=K' (st.putO o.dst v).env:=fun v st K'=>by cases hd:o.dst<;>simp [putK,St.putO]
  have hput2:∀ (v:V) (st:St),(st.putO o.dst v).heap=st.heap∧(st.putO o.dst v).used=st.used:=fun v st=>by cases hd:o.dst<;>simp [St.putO]
  simp only [ev,awpOps];cases hw:wantedS all.toArray (lookE env) o with
  | none=>rfl
  | some b =>
   cases b with
   | false =>
    simp only;have:=hput (.tup []) ⟨env,heap,used⟩ (fun env'=>ev P N T all draw rest (i+1) env' heap used fp K);simp only at this;rw [this,ev_eq P N T all draw K rest];have h2:=hput2 (.tup []) ⟨env,heap,used⟩;congr 1;generalize St.putO ⟨env,heap,used⟩ o.dst (.tup [])=q at h2;cases q;simp at h2;simp [h2]
   | true =>
    simp only;congr 1;funext v us rd;cases hm:(Up.made us).any fun k=>memB k used with
    | true=>rfl
    | false =>
     simp only [forceV_eq];rw [upsK_eq us env];have h1:=hput v (St.ups ⟨env,heap,used⟩ us) (fun env'=>ev P N T all draw rest (i+1) env' (St.ups ⟨env,heap,used⟩ us).heap (St.ups ⟨env,heap,used⟩ us).used ((i,upSites us,rd)::fp) K);rw [ups_env'] at h1;rw [h1,ev_eq P N T all draw K rest];have h2:=hput2 v (St.ups ⟨env,heap,used⟩ us);congr 1;generalize St.putO (St.ups ⟨env,heap,used⟩ us) o.dst v=q at h2;cases q;simp at h2;simp [h2]
theorem boolRes_split {p:Prop}{K:Kont}(h1:p→K (.bool true) [] []) (h2:¬ p→K (.bool false) [] []):boolRes p K:=by
 unfold boolRes;intro r hr;cases r with
 | true=>exact h1 (hr.1 rfl)
 | false=>exact h2 fun hp=>by cases hr.2 hp
theorem boolRes_true {p:Prop}{K:Kont}(h:p) (h1:K (.bool true) [] []):boolRes p K:=boolRes_split (fun _=>h1) (fun hn=>absurd h hn)
theorem boolRes_false {p:Prop}{K:Kont}(h:¬ p) (h1:K (.bool false) [] []):boolRes p K:=boolRes_split (fun hp=>absurd hp h) (fun _=>h1)
theorem boolRes_keep {p:Prop} [Decidable p] {K:Kont}(h:K (.bool (decide p)) [] []):boolRes p K:=by
 unfold boolRes;intro r hr;have:r=decide p:=by cases r<;>simp at hr<;>simp [hr]
 rw [this];exact h
section
variable {P:Program}{T:List (Nat×TI)}{Γ:Ctx}{Q:Exit→St→Prop}{st:St}
theorem W.reg [Glob] (hE:Env P T) {N:NB}(hN:Γ.N=N) {id:Nat}{ops:Array Oper}{draw:Bool}(hok:regionOK N ops.toList=true) (h:ev P N T ops.toList draw ops.toList 0 st.env st.heap st.used [] (fun s=>Q .normal s)):W P T Γ (.region id ops draw) Q st:=by
 subst hN;rw [ev_eq] at h;exact W.region hE hok h
theorem W.condT [Glob] {c:Operand}{x y:Code}(hc:evalO (lookE st.env) c=.bool true) (h:W P T Γ x Q st):W P T Γ (.cond c x y) Q st:=W.cond hc (fun _=>h) (fun h=>by cases h)
theorem W.condF [Glob] {c:Operand}{x y:Code}(hc:evalO (lookE st.env) c=.bool false) (h:W P T Γ y Q st):W P T Γ (.cond c x y) Q st:=W.cond hc (fun h=>by cases h) (fun _=>h)
theorem Le.ret0 {rv v:V}{hp:List (Nat×List Blk)}{us:List Nat}(hv:rv.norm=v) (hs:v.sites=[]):Le ⟨[(0,rv)],hp,us⟩ ⟨[(0,v)],heapL [],keys []⟩:=by
 refine ⟨fun p hp=>?_,fun k hk=>by simp [keys] at hk,fun p hp k hk=>?_,fun p hp=>by simp [heapL] at hp⟩
 ·simp at hp;subst hp;subst hv;exact .norm _
 ·simp at hp;subst hp;rw [hs] at hk;simp at hk
theorem ret0 {fn:Func}{v:V}{l:List V}(hl:resL T st fn.results.toList=some l) (hv:(one? l).norm=v) (hs:v.sites=[]):RetQ T fn v [] .ret st:=
 by unfold RetQ;exact ⟨trivial,l,hl,Le.ret0 hv hs⟩
end
end Go.Sx
namespace Go.Sx
open Go
def fixB (ρ:Nat→Option Nat):List Nat→Bool
 | []=>true
 | k::ks=>(match ρ k with | some k'=>Nat.beq k' k | none=>false)&&fixB ρ ks
theorem fixB_mem {ρ:Nat→Option Nat}:∀ {ks:List Nat},fixB ρ ks=true→∀ k∈ks,ρ k=some k
 | [],_,k,hk=>by cases hk
 | j::ks,h,k,hk=>by
  simp only [fixB,Bool.and_eq_true] at h;rcases List.mem_cons.1 hk with rfl | hk
  ·have h1:=h.1;split at h1
   ·rename_i k' hk';rw [hk',Nat.eq_of_beq_eq_true h1]
   ·cases h1
  ·exact fixB_mem h.2 k hk
def Blk.ren (ρ:Nat→Option Nat):Blk→Blk
 | .rows sz rs none=>.rows sz (rs.map (renL ρ)) none
 | .rows sz rs (some ks)=>(match fixB ρ ks with | true=>.rows sz rs (some ks) | false=>.gone)
 | .map es clock none=>.map (es.map fun p=>(p.1,p.2.1,p.2.2.ren ρ)) clock none
 | .map es clock (some ks)=>(match fixB ρ ks with | true=>.map es clock (some ks) | false=>.gone)
 | .iter s i clock seen=>(match ρ s with | some s'=>.iter s' i clock seen | none=>.gone)
 | .gone=>.gone
def Blk.sitesIn (U:Nat→Bool):Blk→Bool
 | .rows _ rs none=>rs.all fun r=>r.all fun v=>v.sites.all U
 | .rows _ _ (some ks)=>(match ks with | []=>true | _=>false)
 | .map es _ none=>es.all fun p=>p.2.2.sites.all U
 | .map _ _ (some ks)=>(match ks with | []=>true | _=>false)
 | .iter s _ _ _=>U s
 | .gone=>true
theorem Blk.sitesIn_within {U:Nat→Bool}{b:Blk}(h:b.sitesIn U=true):b.within U:=by
 cases b with
 | rows sz rows ks =>
  cases ks with
  | none =>
   intro i r j v hi hj k hk;have h1:=List.all_eq_true.1 h r (List.mem_of_getElem? hi);have h2:=List.all_eq_true.1 h1 v (List.mem_of_getElem? hj);exact List.all_eq_true.1 h2 k hk
  | some l=>cases l with
   | nil=>intro k hk;cases hk
   | cons _ _=>cases h
 | map es clock ks =>
  cases ks with
  | none =>
   intro i b k v hi q hq;have h1:=List.all_eq_true.1 h (b,k,v) (List.mem_of_getElem? hi);exact List.all_eq_true.1 h1 q hq
  | some l=>cases l with
   | nil=>intro k hk;cases hk
   | cons _ _=>cases h
 | iter s i clock seen=>exact h
 | gone=>trivial
theorem ren_ren {ρ σ:Nat→Option Nat}{v:V}(h:∀ k∈v.sites,∃ k',ρ k=some k'∧σ k'=some k):(v.ren ρ).ren σ=v:=by
 have key:∀ v:V,(v.ren ρ).ren σ=v.ren (fun k=>(ρ k).bind σ):=by
  intro v
  induction v using V.rec (motive_2:=fun l=>renL σ (renL ρ l)=renL (fun k=>(ρ k).bind σ) l) (motive_3:=fun _=>True) with
  | bp s o=>simp only [V.ren];cases h:ρ s<;>simp [V.ren]
  | pel s i r o n=>simp only [V.ren];cases h:ρ s<;>simp [V.ren]
  | osl s i o l n=>simp only [V.ren];cases h:ρ s<;>simp [V.ren]
  | omap s i=>simp only [V.ren];cases h:ρ s<;>simp [V.ren]
  | oslc s i o l n cap=>simp only [V.ren];cases h:ρ s<;>simp [V.ren]
  | agg cs ih=>simp only [V.ren];rw [ih]
  | tup cs ih=>simp only [V.ren];rw [ih]
  | fn f cs ih=>simp only [V.ren];rw [ih]
  | iface t v ih=>simp only [V.ren];rw [ih]
  | nil=>simp only [renL]
  | cons v vs ih1 ih2=>first | (simp only [renL];rw [ih1,ih2]) | trivial
  | _=>first | trivial | simp only [V.ren]
 rw [key];exact V.ren_same v fun k hk=>by obtain ⟨k',h1,h2⟩:=h k hk;simp [h1,h2]
theorem BRel.ren {w:World}{F F':Nat→Prop}{m m':MM}{ρ:Nat→Option Nat}{x:MB}{b:Blk}
  (hm:∀ s s',ρ s=some s'→∀ i x',m' s' i=some x'→∃ x,m s i=some x∧Adv x x')
  (hv:∀ {v c},VRel w F m v c→VRel w F' m' (v.ren ρ) c) (h:BRel w F m x b):BRel w F' m' x (b.ren ρ):=by
 have hp:∀ {v c},v.sites=[]→VRel w F m v c→VRel w F' m' v c:=fun h0 h=>by have:=hv h;rwa [V.ren_pure h0] at this
 cases b with
 | rows sz rows ks =>
  cases ks with
  | none =>
   obtain ⟨h1,h2,h3,h4,h5,h6⟩:=h;refine ⟨h1,by simpa using h2,fun i r hi=>?_,fun hn=>(by rw [h4 hn];rfl),fun hn=>by simpa using h5 hn,fun i r j v hi hj=>?_⟩
   ·simp only [List.getElem?_map,Option.map_eq_some_iff] at hi;obtain ⟨r',hr',rfl⟩:=hi;rw [renL_eq];simp [h3 i r' hr']
   ·simp only [List.getElem?_map,Option.map_eq_some_iff] at hi;obtain ⟨r',hr',rfl⟩:=hi;rw [renL_eq,List.getElem?_map,Option.map_eq_some_iff] at hj;obtain ⟨v',hv',rfl⟩:=hj;obtain ⟨g1,g2,c,g3,g5,g4⟩:=h6 i r' j v' hr' hv';exact ⟨V.one_ren' g1,(fun l hl=>by cases hl),c,g3,g5,hv g4⟩
  | some l =>
   simp only [Blk.ren];split
   ·rename_i hfix;obtain ⟨h1,h2,h3,h4,h5,h6⟩:=h;refine ⟨h1,h2,h3,h4,h5,fun i r j v hi hj=>?_⟩;obtain ⟨g1,g2,c,g3,g5,g4⟩:=h6 i r j v hi hj;have h0:v.ren ρ=v:=V.ren_same v fun k hk=>fixB_mem hfix k (g2 l rfl k hk);have h8:=hv g4;rw [h0] at h8;exact ⟨g1,g2,c,g3,g5,h8⟩
   ·exact trivial
 | map es clock ks =>
  cases ks with
  | none =>
   obtain ⟨h1,h2,ents,h3,h4,h5,h6,h7⟩:=h;refine ⟨h1,h2,ents,h3,by simpa using h4,h5,h6,fun i b k v hi=>?_⟩;simp only [List.getElem?_map,Option.map_eq_some_iff] at hi;obtain ⟨⟨b',k',v'⟩,hi',he⟩:=hi;cases he;obtain ⟨e,g1,g0,g2,g3,g4,g5⟩:=h7 i _ _ v' hi';exact ⟨e,g1,g0,g2,fun l hl=>(by cases hl),hp g2 g4,hv g5⟩
  | some l =>
   simp only [Blk.ren];split
   ·rename_i hfix;obtain ⟨h1,h2,ents,h3,h4,h5,h6,h7⟩:=h;refine ⟨h1,h2,ents,h3,h4,h5,h6,fun i b k v hi=>?_⟩;obtain ⟨e,g1,g0,g2,g3,g4,g5⟩:=h7 i b k v hi;have h0:v.ren ρ=v:=V.ren_same v fun k hk=>fixB_mem hfix k (g3 l rfl k hk);have h8:=hv g5;rw [h0] at h8;exact ⟨e,g1,g0,g2,g3,hp g2 g4,h8⟩
   ·exact trivial
 | iter s i clock seen =>
  simp only [Blk.ren];split
  ·rename_i s' hs;obtain ⟨h1,h2,h3,h4⟩:=h;refine ⟨h1,h2,h3,fun y hy h0=>?_⟩;obtain ⟨y0,g1,g2⟩:=hm s s' hs i y hy;rcases g2 with rfl | g2
   ·exact h4 y g1 h0
   ·omega
  ·exact trivial
 | gone=>trivial
theorem BRel.unren {w:World}{F F':Nat→Prop}{m m':MM}{ρ σ:Nat→Option Nat}{x:MB}{b:Blk}{U:Nat→Bool}
  (hm:∀ s s',σ s=some s'→∀ i x',m' s' i=some x'→∃ x,m s i=some x∧Adv x x')
  (hv:∀ {v c},VRel w F m v c→VRel w F' m' (v.ren σ) c) (hb:b.sitesIn U=true) (hU:∀ k,U k=true→∃ k',ρ k=some k'∧σ k'=some k) (h:BRel w F m x (b.ren ρ)):BRel w F' m' x b:=by
 have h2:=BRel.ren (ρ:=σ) hm hv h;have:(b.ren ρ).ren σ=b:=by
  cases b with
  | rows sz rows ks =>
   cases ks with
   | none =>
    simp only [Blk.ren,List.map_map,Blk.rows.injEq,true_and,and_true];have:∀ r∈rows,(renL σ ∘ renL ρ) r=r:=fun r hr=>by
     simp only [Function.comp,renL_eq,List.map_map];have:∀ v∈r,(V.ren σ ∘ V.ren ρ) v=v:=fun v hvr=>by
      have h1:=List.all_eq_true.1 hb r hr;have h2:=List.all_eq_true.1 h1 v hvr;exact ren_ren fun k hk=>hU k (List.all_eq_true.1 h2 k hk)
     rw [List.map_congr_left this];simp
    rw [List.map_congr_left this];simp
   | some l=>cases l with
    | nil=>rfl
    | cons _ _=>cases hb
  | map es clock ks =>
   cases ks with
   | none =>
    simp only [Blk.ren,List.map_map,Blk.map.injEq,and_true,true_and];have:∀ p∈es,((fun p:Nat×V×V=>(p.1,p.2.1,p.2.2.ren σ)) ∘ fun p:Nat×V×V=>(p.1,p.2.1,p.2.2.ren ρ)) p=p:=fun p hp=>by
     have h1:=List.all_eq_true.1 hb p hp;simp only [Function.comp];rw [ren_ren fun k hk=>hU k (List.all_eq_true.1 h1 k hk)]
    rw [List.map_congr_left this];simp
   | some l=>cases l with
    | nil=>rfl
    | cons _ _=>cases hb
  | iter s i clock seen =>
   obtain ⟨k',h1,h2⟩:=hU s hb;simp only [Blk.ren,h1,h2]
  | gone=>rfl
 rwa [this] at h2
def swapL (l:List (Nat×Nat)):List (Nat×Nat):=l.map fun p=>(p.2,p.1)
def nodupB:List Nat→Bool
 | []=>true
 | k::l=>(match memB k l with | true=>false | false=>true)&&nodupB l
theorem look_iff {α:Type}:∀ {l:List (Nat×α)},nodupB (l.map (·.1))=true→∀ {k:Nat}{v:α},look l k=some v↔(k,v)∈l
 | [],_,k,v=>by simp [look]
 | (j,u)::l,h,k,v=>by
  simp only [List.map_cons,nodupB,Bool.and_eq_true] at h;obtain ⟨h1,h2⟩:=h;have hj:¬ j∈l.map (·.1):=fun hm=>by rw [memB_of hm] at h1;cases h1
  rw [look_cons,List.mem_cons];by_cases e:k=j
  ·subst e;simp only [if_true,Option.some.injEq,Prod.mk.injEq,true_and];constructor
   ·intro h;exact .inl h.symm
   ·rintro (h | h)
    ·exact h.symm
    ·exact absurd (List.mem_map.2 ⟨_,h,rfl⟩) hj
  ·simp only [e,if_false,Prod.mk.injEq,false_and,false_or];exact look_iff h2
theorem look_swap {l:List (Nat×Nat)}(h1:nodupB (l.map (·.1))=true) (h2:nodupB (l.map (·.2))=true) {k k':Nat}:look (swapL l) k'=some k↔look l k=some k':=by
 have h3:(swapL l).map (·.1)=l.map (·.2):=by simp [swapL]
 rw [look_iff (by rw [h3];exact h2),look_iff h1];simp only [swapL,List.mem_map,Prod.mk.injEq];constructor
 ·rintro ⟨⟨a,b⟩,hm,rfl,rfl⟩;exact hm
 ·intro hm;exact ⟨_,hm,rfl,rfl⟩
theorem look_isSome {α:Type}{l:List (Nat×α)}{k:Nat}:(look l k).isSome=true↔k∈l.map (·.1):=by
 induction l with
 | nil=>simp [look]
 | cons p l ih =>
  obtain ⟨j,u⟩:=p;rw [look_cons];by_cases e:k=j
  ·simp [e]
  ·simp only [e,if_false,ih,List.map_cons,List.mem_cons,false_or]
theorem look_none {α:Type}{l:List (Nat×α)}{k:Nat}(h:¬ k∈l.map (·.1)):look l k=none:=by
 cases hl:look l k with
 | none=>rfl
 | some v=>exact absurd (look_isSome.1 (by rw [hl];rfl)) h
def Up.key:Up→Nat
 | .fresh k _=>k
 | .upd k _ _=>k
 | .all k _=>k
def Up.res (l:List Blk):Up→List Blk
 | .fresh _ b=>[b]
 | .upd _ i b=>l.set i b
 | .all _ b=>b
theorem up_heap (s:ASt) (u:Up) (j:Nat):(s.up u).heap j=if j=u.key then u.res (s.heap j) else s.heap j:=by
 cases u<;>rfl
theorem ups_other:∀ (us:List Up) (s:ASt) (j:Nat),(∀ u∈us,u.key≠j)→(s.ups us).heap j=s.heap j
 | [],_,_,_=>rfl
 | u::us,s,j,h=>by
  simp only [ASt.ups,List.foldl_cons];have:=ups_other us (s.up u) j (fun v hv=>h v (List.mem_cons_of_mem _ hv));simp only [ASt.ups] at this;rw [this,up_heap,if_neg (Ne.symm (h u (by simp)))]
theorem ups_one:∀ (us:List Up) (s:ASt) (u:Up),nodupB (us.map Up.key)=true→u∈us→(s.ups us).heap u.key=u.res (s.heap u.key)
 | [],_,_,_,h=>by cases h
 | v::us,s,u,hn,hm=>by
  simp only [List.map_cons,nodupB,Bool.and_eq_true] at hn;obtain ⟨h1,h2⟩:=hn;have hv:¬ v.key∈us.map Up.key:=fun hm=>by rw [memB_of hm] at h1;cases h1
  rcases List.mem_cons.1 hm with e | e
  ·subst e;have:=ups_other us (s.up u) u.key (fun w hw e=>hv (List.mem_map.2 ⟨w,hw,e⟩));simp only [ASt.ups,List.foldl_cons] at this ⊢;rw [this,up_heap,if_pos rfl]
  ·have:=ups_one us (s.up v) u h2 e;simp only [ASt.ups,List.foldl_cons] at this ⊢;have hne:u.key≠v.key:=fun e'=>hv (e' ▸ List.mem_map.2 ⟨u,e,rfl⟩);rw [this,up_heap,if_neg hne]
theorem upsMade:∀ (us:List Up) (s:ASt) (j:Nat),(s.ups us).used j=true↔s.used j=true∨j∈Up.made us
 | [],s,j=>by simp [ASt.ups,Up.made]
 | .fresh k b::us,s,j=>by
  have:=upsMade us (s.up (.fresh k b)) j;simp only [ASt.ups,List.foldl_cons] at this ⊢;rw [this];simp only [ASt.up,ASt.fresh,Up.made,List.mem_cons];by_cases e:j=k<;>simp [e]
 | .upd k i b::us,s,j=>by
  have:=upsMade us (s.up (.upd k i b)) j;simp only [ASt.ups,List.foldl_cons] at this ⊢;rw [this];simp only [ASt.up,ASt.at,Up.made]
 | .all k b::us,s,j=>by
  have:=upsMade us (s.up (.all k b)) j;simp only [ASt.ups,List.foldl_cons] at this ⊢;rw [this];simp only [ASt.up,Up.made]
theorem upsEnv:∀ (us:List Up) (s:ASt),(s.ups us).env=s.env
 | [],_=>rfl
 | .fresh k b::us,s=>by
  have:=upsEnv us (s.up (.fresh k b));simp only [ASt.ups,List.foldl_cons] at this ⊢;rw [this];rfl
 | .upd k i b::us,s=>by
  have:=upsEnv us (s.up (.upd k i b));simp only [ASt.ups,List.foldl_cons] at this ⊢;rw [this];rfl
 | .all k b::us,s=>by
  have:=upsEnv us (s.up (.all k b));simp only [ASt.ups,List.foldl_cons] at this ⊢;rw [this];rfl
end Go.Sx
