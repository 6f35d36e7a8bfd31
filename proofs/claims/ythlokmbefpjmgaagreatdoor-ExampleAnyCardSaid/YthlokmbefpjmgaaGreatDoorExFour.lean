/- Candidate paths and answers, in plain words. -/
import Derived.Test.YthlokmbefpjmgaaGreatDoorRtSix
import Derived.Test.YthlokmbefpjmgaaGreatDoorSxFive
import Derived.Test.YthlokmbefpjmgaaGreatDoorExThree
import Derived.Test.YthlokmbefpjmgaaGreatDoorSxFour
set_option linter.unusedVariables false
set_option linter.unusedSimpArgs false
namespace Go.Sx.Sp
open Go Go.Sx Go.Proofs Go.Sort
attribute [local irreducible] GoodW famL
def candA (l:List Table) (E:List (List Int)) (k:Nat) (a:Table):List Pth:=⟨a.id,[]⟩::(l.filter fun b=>decide (a.id<b.id)).flatMap fun b=>routesL l E a.id b.id k
def candL (l:List Table) (E:List (List Int)) (k:Nat):List Pth:=l.flatMap (candA l E k)
def exIn (l:List Table) (E:List (List Int)) (k:Nat) (a:Table):List Table→List Pth→Option (List Pth)
 | [],out=>some out
 | b::bs,out=>if 1024<(if a.id<b.id then out++findP l E a.id b.id k (1024-out.length) else out).length then none else exIn l E k a bs (if a.id<b.id then out++findP l E a.id b.id k (1024-out.length) else out)
def exOut (l:List Table) (E:List (List Int)) (k:Nat):List Table→List Pth→Option (List Pth)
 | [],out=>some out
 | a::az,out=>(exIn l E k a l (out++[⟨a.id,[]⟩])).bind (exOut l E k az)
def exTo (l:List Table) (E:List (List Int)) (k:Nat) (a:Table) (bs:List Table):List Pth:=(bs.filter fun b=>decide (a.id<b.id)).flatMap fun b=>routesL l E a.id b.id k
theorem exTo_cons (l:List Table) (E:List (List Int)) (k:Nat) (a b:Table) (bs:List Table):exTo l E k a (b::bs)=(if a.id<b.id then routesL l E a.id b.id k else [])++exTo l E k a bs:=by
 unfold exTo;rw [List.filter_cons];by_cases h:a.id<b.id
 ·rw [if_pos (decide_eq_true h),if_pos h,List.flatMap_cons]
 ·rw [if_neg (by simpa using h),if_neg h];rfl
theorem exIn_ok (l:List Table) (E:List (List Int)) (k:Nat) (a:Table):∀ (bs:List Table) (out:List Pth),
  (∀ o,exIn l E k a bs out=some o→o.Perm (out++exTo l E k a bs)∧(bs≠[]→o.length≤1024))∧(exIn l E k a bs out=none→1024<(out++exTo l E k a bs).length)
 | [],out=>⟨fun o h=>(by cases h;exact ⟨by simp [exTo],fun h=>absurd rfl h⟩),fun h=>(by cases h)⟩
 | b::bs,out=>by
  unfold exIn;rw [exTo_cons];by_cases hab:a.id<b.id
  ·rw [if_pos hab,if_pos hab];have hne:a.id≠b.id:=by omega
   rw [findP_eq hne];generalize routesL l E a.id b.id k=R;have hlen:(out++sortBy ordC (R.take (1024-out.length+1))).length=out.length+min (1024-out.length+1) R.length:=by rw [List.length_append,sortBy_len,List.length_take]
   split
   ·rename_i h;refine ⟨fun o h=>(by cases h),fun _=>?_⟩;rw [hlen] at h;simp only [List.length_append];omega
   ·rename_i h;rw [hlen] at h;have hR:R.take (1024-out.length+1)=R:=List.take_of_length_le (by omega);rw [hR];have ih:=exIn_ok l E k a bs (out++sortBy ordC R);refine ⟨fun o ho=>?_,fun ho=>?_⟩
    ·obtain ⟨g1,g2⟩:=ih.1 o ho;refine ⟨g1.trans ?_,fun _=>?_⟩
     ·rw [List.append_assoc];exact List.Perm.append_left _ (List.Perm.append_right _ (sortBy_perm ordC R))
     ·by_cases hb:bs=[]
      ·subst hb;cases ho;rw [List.length_append,sortBy_len];omega
      ·exact g2 hb
    ·have:=ih.2 ho;simp only [List.length_append,sortBy_len] at this ⊢;omega
  ·rw [if_neg hab,if_neg hab,List.nil_append];have ih:=exIn_ok l E k a bs out;split
   ·rename_i h;refine ⟨fun o h=>(by cases h),fun _=>?_⟩;rw [List.length_append];omega
   ·rename_i h;refine ⟨fun o ho=>⟨(ih.1 o ho).1,fun _=>?_⟩,ih.2⟩;by_cases hb:bs=[]
    ·subst hb;cases ho;omega
    ·exact (ih.1 o ho).2 hb
theorem exOut_ok (l:List Table) (E:List (List Int)) (k:Nat) (hl:l≠[]):∀ (az:List Table) (out:List Pth),
  (∀ o,exOut l E k az out=some o→o.Perm (out++az.flatMap (candA l E k))∧(az≠[]→o.length≤1024))∧(exOut l E k az out=none→1024<(out++az.flatMap (candA l E k)).length)
 | [],out=>⟨fun o h=>(by cases h;exact ⟨by simp,fun h=>absurd rfl h⟩),fun h=>(by cases h)⟩
 | a::az,out=>by
  unfold exOut;have h1:=exIn_ok l E k a l (out++[⟨a.id,[]⟩]);rw [List.flatMap_cons];have hcand:(out++[⟨a.id,[]⟩])++exTo l E k a l=out++candA l E k a:=by
   rw [List.append_assoc];rfl
  rw [hcand] at h1;cases hx:exIn l E k a l (out++[⟨a.id,[]⟩]) with
  | none =>
   refine ⟨fun o h=>(by cases h),fun _=>?_⟩;have:=h1.2 hx;rw [←List.append_assoc,List.length_append];omega
  | some o1 =>
   obtain ⟨g1,g2⟩:=h1.1 o1 hx;have ih:=exOut_ok l E k hl az o1;show (∀ o,exOut l E k az o1=some o→_)∧(exOut l E k az o1=none→_)
   refine ⟨fun o ho=>⟨(ih.1 o ho).1.trans ?_,fun _=>?_⟩,fun ho=>?_⟩
   ·rw [←List.append_assoc];exact List.Perm.append_right _ g1
   ·by_cases hb:az=[]
    ·subst hb;cases ho;exact g2 hl
    ·exact (ih.1 o ho).2 hb
   ·have:=ih.2 ho;have e:=g1.length_eq;rw [List.length_append] at this;rw [←List.append_assoc,List.length_append];omega
theorem candL_nodup {l:List Table}(hd:(l.map Table.id).Nodup) (E:List (List Int)) (k:Nat):(candL l E k).Nodup:=by
 have hstart:∀ (a:Table) x,x∈candA l E k a→x.start=a.id:=fun a x hx=>by
  unfold candA at hx;rcases List.mem_cons.1 hx with rfl | hx
  ·rfl
  ·obtain ⟨b,_,hx⟩:=List.mem_flatMap.1 hx;exact (simL_pre _ _ _ _ hx).1
 have hend:∀ (a b:Table) x,x∈routesL l E a.id b.id k→(x.steps.map Stp.tt).getLastD a.id=b.id:=fun a b x hx=>(simL_chain k [] a.id x hx rfl).1;unfold candL;rw [List.nodup_iff_pairwise_ne,List.pairwise_flatMap];refine ⟨fun a ha=>?_,?_⟩
 ·unfold candA;rw [List.pairwise_cons];refine ⟨fun x hx e=>?_,?_⟩
  ·obtain ⟨b,hb,hx⟩:=List.mem_flatMap.1 hx;have h1:=of_decide_eq_true (List.mem_filter.1 hb).2;have h2:=hend a b x hx;rw [←e] at h2;have h3:a.id=b.id:=h2;omega
  ·rw [List.pairwise_flatMap];refine ⟨fun b _=>List.nodup_iff_pairwise_ne.1 (routesL_nodup l E a.id b.id k),?_⟩;have hp:l.Pairwise fun b c=>b.id≠c.id:=List.pairwise_map.1 (List.nodup_iff_pairwise_ne.1 hd);refine (hp.sublist List.filter_sublist).imp fun {b c} hne x hx y hy e=>?_;subst e;exact hne (by rw [←hend a b x hx,←hend a c x hy])
 ·have hp:l.Pairwise fun b c=>b.id≠c.id:=List.pairwise_map.1 (List.nodup_iff_pairwise_ne.1 hd);refine hp.imp fun {a c} hne x hx y hy e=>?_;subst e;exact hne (by rw [←hstart a x hx,←hstart c x hy])
def exPathsM (l:List Table) (E:List (List Int)) (steps:Int):List Pth×Int:=
 if listB l=true then (if 0≤steps∧steps≤4 then (if (candL l E steps.toNat).length≤1024 then (sortBy ordC (candL l E steps.toNat),0) else ([],3)) else ([],2)) else ([],1)
theorem exOut_eq {l:List Table}{E:List (List Int)}{k:Nat}(hd:(l.map Table.id).Nodup):((exOut l E k l []).map (sortBy ordC)).elim (([],3):List Pth×Int) (fun o=>(o,0))=if (candL l E k).length≤1024 then (sortBy ordC (candL l E k),0) else ([],3):=by
 by_cases hl:l=[]
 ·subst hl;simp [exOut,candL]
 ·obtain ⟨h1,h2⟩:=exOut_ok l E k hl l [];have hnd:=candL_nodup hd E k;cases hx:exOut l E k l [] with
  | none =>
   have:=h2 hx;rw [if_neg (by unfold candL;rw [List.nil_append] at this;omega)];rfl
  | some o =>
   obtain ⟨g1,g2⟩:=h1 o hx;rw [List.nil_append] at g1;have g3:=g2 hl;have e:=g1.length_eq;rw [if_pos (show (candL l E k).length≤1024 by unfold candL;omega)];show (sortBy ordC o,(0:Int))=_;rw [ascC_ext ordC_tot (sortBy_asc ordC_tot (g1.nodup_iff.2 hnd)) (sortBy_asc ordC_tot hnd) fun x=>by rw [sortBy_mem,sortBy_mem];exact g1.mem_iff]
structure Fnd where
 p:Pth
 cs:List Rf
 rows:Int
 deriving DecidableEq
def Fnd.row (x:Fnd):List V:=[.int .i64 x.p.start,.sl (stpRows x.p.steps) false,.sl [] false,.sl (rfRows x.cs) false,.int .i64 x.rows]
def fndRows (l:List Fnd):List (List V):=l.map Fnd.row
theorem fndRows_len (l:List Fnd):(fndRows l).length=l.length:=by simp [fndRows]
theorem fndRows_get {l:List Fnd}{i:Nat}(h:i<l.length):(fndRows l)[i]?=some l[i].row:=by simp [fndRows,h]
theorem fndRows_snoc (l:List Fnd) (x:Fnd):fndRows (l++[x])=fndRows l++[x.row]:=by simp [fndRows]
section
variable {α:Type}
def prodL:List (List α)→List (List α)
 | []=>[[]]
 | f::fs=>f.flatMap fun x=>(prodL fs).map (x::·)
theorem prodL_snoc (f:List α):∀ fs:List (List α),prodL (fs++[f])=(prodL fs).flatMap fun c=>f.map fun x=>c++[x]
 | []=>by
  show f.flatMap (fun x=>[[x]])=([[]]:List (List α)).flatMap fun c=>f.map fun x=>c++[x]
  rw [List.flatMap_singleton,List.flatMap_def]
  induction f with
  | nil=>rfl
  | cons a f ih=>simpa using ih
 | g::fs=>by
  show g.flatMap (fun x=>(prodL (fs++[f])).map (x::·))=_;rw [prodL_snoc f fs];show _=(g.flatMap fun x=>(prodL fs).map (x::·)).flatMap _;rw [List.flatMap_assoc];refine congrArg (fun h=>g.flatMap h) (funext fun x=>?_);rw [List.map_flatMap,List.flatMap_map];refine congrArg (fun h=>(prodL fs).flatMap h) (funext fun c=>?_);rw [List.map_map];rfl
def choicesR (R:List α):Nat→List (List α)
 | 0=>[[]]
 | n+1=>(choicesR R n).flatMap fun c=>R.map fun r=>c++[r]
theorem choicesR_prod (R:List α):∀ n,choicesR R n=prodL (List.replicate n R)
 | 0=>rfl
 | n+1=>by
  show (choicesR R n).flatMap _=_;rw [choicesR_prod R n,List.replicate_succ',prodL_snoc]
theorem choicesR_len (R:List α):∀ n,∀ c∈choicesR R n,c.length=n∧∀ r∈c,r∈R
 | 0,c,hc=>by
  have:c=[]:=List.mem_singleton.1 hc;subst this;exact ⟨rfl,fun r hr=>by cases hr⟩
 | n+1,c,hc=>by
  obtain ⟨d,hd,hc⟩:=List.mem_flatMap.1 hc;obtain ⟨r,hr,rfl⟩:=List.mem_map.1 hc;obtain ⟨h1,h2⟩:=choicesR_len R n d hd;refine ⟨by simp [h1],fun x hx=>?_⟩;rcases List.mem_append.1 hx with hx | hx
  ·exact h2 x hx
  ·rw [List.mem_singleton.1 hx];exact hr
theorem choicesR_count (R:List α):∀ n,(choicesR R n).length=R.length ^ n
 | 0=>rfl
 | n+1=>by
  show ((choicesR R n).flatMap _).length=_;rw [List.length_flatMap];have:(choicesR R n).map (fun c=>(R.map fun r=>c++[r]).length)=List.replicate (choicesR R n).length R.length:=by
   rw [←List.map_const'];exact List.map_congr_left fun c _=>by rw [List.length_map]
  rw [this,List.sum_replicate_nat,choicesR_count R n,Nat.pow_succ]
def allQ:List (α→Bool)→List α→Bool
 | p::ps,x::xs=>p x&&allQ ps xs
 | _,_=>true
theorem flat_filter {β:Type}(f:α→List β) (g:α→List β) (q:β→Bool) (p:α→Bool) (h1:∀ x,p x=true→(g x).filter q=f x) (h0:∀ x,p x=false→(g x).filter q=[]):∀ R:List α,(R.filter p).flatMap f=(R.flatMap g).filter q
 | []=>rfl
 | r::R=>by
  have ih:=flat_filter f g q p h1 h0 R;rw [List.flatMap_cons,List.filter_append,←ih,List.filter_cons];cases h:p r with
  | true=>rw [if_pos rfl,List.flatMap_cons,h1 r h]
  | false=>rw [if_neg (by decide),h0 r h,List.nil_append]
theorem prodL_filter (R:List α):∀ ps:List (α→Bool),prodL (ps.map fun p=>R.filter p)=(prodL (List.replicate ps.length R)).filter (allQ ps)
 | []=>rfl
 | p::ps=>by
  show (R.filter p).flatMap (fun x=>(prodL (ps.map fun p=>R.filter p)).map (x::·))=(R.flatMap fun x=>(prodL (List.replicate ps.length R)).map (x::·)).filter _;rw [prodL_filter R ps];refine flat_filter _ _ _ p (fun x hx=>?_) (fun x hx=>?_) R
  ·rw [List.filter_map];refine congrArg (List.map (x::·)) (List.filter_congr fun c _=>?_);show (p x&&allQ ps c)=_;rw [hx,Bool.true_and]
  ·rw [List.filter_map,List.map_eq_nil_iff,List.filter_eq_nil_iff];intro c _ h;have h:(p x&&allQ ps c)=true:=h;rw [hx] at h;cases h
end
def fullC (c:Column):Bool:=c.cells.any fun x=>!x.null
def refsT (t:Table) (n:Nat):List Rf:=((List.range n).filter fun i=>fullC (t.cols.getD i ⟨[],[]⟩)).map fun i:Nat=>(⟨t.id,(i:Int)⟩:Rf)
def refsL (ts:List Table):List Rf:=ts.flatMap fun t=>refsT t t.cols.length
theorem refsT_succ (t:Table) (n:Nat):refsT t (n+1)=if fullC (t.cols.getD n ⟨[],[]⟩)=true then refsT t n++[⟨t.id,(n:Int)⟩] else refsT t n:=by
 unfold refsT;rw [List.range_succ,List.filter_append,List.map_append,List.filter_cons];split<;>simp
theorem refsT_len (t:Table) (n:Nat):(refsT t n).length≤n:=by
 unfold refsT;rw [List.length_map];exact Nat.le_trans (List.length_filter_le _ _) (by simp)
theorem refsT_mem {t:Table}{n:Nat}{r:Rf}(h:r∈refsT t n):r.t=t.id∧∃ i,i<n∧r.c=(i:Int):=by
 obtain ⟨i,hi,rfl⟩:=List.mem_map.1 h;exact ⟨rfl,i,List.mem_range.1 (List.mem_filter.1 hi).1,rfl⟩
theorem tabOf_id {l:List Table}{n:Int}(h:0<(tabOf l n).cols.length∨(findT l n).isSome=true):(tabOf l n).id=n∧(findT l n).isSome=true:=by
 unfold tabOf at h ⊢;cases hf:findT l n with
 | none =>
  rw [hf] at h;rcases h with h | h
  ·simp [Table.zero] at h
  ·cases h
 | some t=>exact ⟨by simpa using List.find?_some hf,rfl⟩
theorem path_tabs {l:List Table}{p:Pth}(h:validE l p=0):(tabOf l p.start).id=p.start∧∀ s∈p.steps,(tabOf l s.tt).id=s.tt:=by
 have hb:=(valid_path h).2.2;refine ⟨?_,fun s hs=>?_⟩
 ·unfold pathB at hb;rw [Bool.and_eq_true] at hb;exact (tabOf_id (.inr hb.1)).1
 ·obtain ⟨i,hi,rfl⟩:=List.getElem_of_mem hs;have h1:=(pathB_step hb hi).tc;have e:stpAt p i=p.steps[i]:=by simp [stpAt,hi]
  rw [e] at h1;exact (tabOf_id (.inl (by omega))).1
theorem tabsI_tabs {l:List Table}{p:Pth}(h:validE l p=0):(tabsM l p).map Table.id=tabsI p:=by
 obtain ⟨h1,h2⟩:=path_tabs h;unfold tabsM tabsI;rw [befT_all,List.map_cons,h1,List.map_map];exact congrArg (p.start::·) (List.map_congr_left fun s hs=>h2 s hs)
theorem refsL_has {l:List Table}{p:Pth}(h:validE l p=0) {r:Rf}(hr:r∈refsL (tabsM l p)):hasB l p r=true:=by
 obtain ⟨t,ht,hr⟩:=List.mem_flatMap.1 hr;obtain ⟨h1,i,hi,hc⟩:=refsT_mem hr;have hm:r.t∈tabsI p:=by rw [←tabsI_tabs h,h1];exact List.mem_map_of_mem ht
 have hto:tabOf l r.t=t:=by
  obtain ⟨g1,g2⟩:=path_tabs h;unfold tabsM at ht;rcases List.mem_cons.1 ht with rfl | ht
  ·rw [h1,g1]
  ·obtain ⟨s,hs,rfl⟩:=List.mem_map.1 ht;rw [h1,g2 s hs]
 unfold hasB;rw [decide_eq_true hm,Bool.and_true];have hlt:0<(tabOf l r.t).cols.length:=by rw [hto];omega
 have hf:=(tabOf_id (.inl hlt)).2;unfold getC;unfold tabOf at hto;cases hx:findT l r.t with
 | none=>rw [hx] at hf;cases hf
 | some b =>
  rw [hx] at hto;have hto:b=t:=hto;subst hto;show (if 0≤r.c∧r.c<(b.cols.length:Int) then b.cols[r.c.toNat]? else none).isSome=true;rw [if_pos (by omega)];rw [hc,Int.toNat_natCast,List.getElem?_eq_getElem hi];rfl
def cellsR (l:List Table) (p:Pth) (r:Rf):List Cell:=(rowsL l p).map (cellV l p r)
theorem cellsR_len (l:List Table) (p:Pth) (r:Rf):(cellsR l p r).length=(rowsL l p).length:=by simp [cellsR]
def shTab (l:List Table) (p:Pth) (cs:List Rf):Table:=⟨0,[],cs.map fun r=>⟨[],cellsR l p r⟩⟩
theorem shTab_rect (l:List Table) (p:Pth) (cs:List Rf):RectT (shTab l p cs):=fun c hc=>by
 obtain ⟨r,hr,rfl⟩:=List.mem_map.1 hc;unfold rowsN shTab;cases cs with
 | nil=>cases hr
 | cons r0 cs=>show (cellsR l p r).length=(cellsR l p r0).length;rw [cellsR_len,cellsR_len]
theorem shTab_rows (l:List Table) (p:Pth) (cs:List Rf):rowsN (shTab l p cs)≤(rowsL l p).length:=by
 unfold rowsN shTab;cases cs with
 | nil=>exact Nat.zero_le _
 | cons r0 cs=>show (cellsR l p r0).length≤_;rw [cellsR_len];exact Nat.le_refl _
def lastT (p:Pth):Int:=(p.steps.map Stp.tt).getLastD p.start
def bothB (p:Pth) (cs:List Rf):Bool:=decide (p.steps.length=0)||(cs.any (fun r=>decide (r.t=p.start))&&cs.any fun r=>decide (r.t=lastT p))
def ansB (l:List Table) (p:Pth) (q:Table) (cs:List Rf):Bool:=bothB p cs&&contB (shTab l p cs) q
def mkF (l:List Table) (p:Pth) (cs:List Rf):Fnd:=⟨p,cs,((rowsL l p).length:Int)⟩
def ansL (l:List Table) (q:Table) (p:Pth):List Fnd:=((choicesR (refsL (tabsM l p)) q.cols.length).filter (ansB l p q)).map (mkF l p)
def coverB (cells:List Cell) (c:Column):Bool:=c.cells.all fun x=>x.null||cells.any fun y=>!y.null&&decide (y.text=x.text)
def visF (P:List Rf→Bool) (mk:List Rf→Fnd):List (List Rf)→List Rf→List Fnd→List Fnd
 | [],cs,out=>if P cs=true then out++[mk cs] else out
 | f::fs,cs,out=>f.foldl (fun o r=>visF P mk fs (cs++[r]) o) out
theorem visF_eq (P:List Rf→Bool) (mk:List Rf→Fnd):∀ (fs:List (List Rf)) (cs:List Rf) (out:List Fnd),visF P mk fs cs out=out++((prodL fs).filter fun c=>P (cs++c)).map fun c=>mk (cs++c)
 | [],cs,out=>by
  unfold visF prodL;rw [List.filter_cons,List.append_nil];split<;>simp
 | f::fs,cs,out=>by
  unfold visF;show _=out++((f.flatMap fun x=>(prodL fs).map (x::·)).filter _).map _;have h:∀ (l:List Rf) (o:List Fnd),l.foldl (fun o r=>visF P mk fs (cs++[r]) o) o=o++((l.flatMap fun x=>(prodL fs).map (x::·)).filter fun c=>P (cs++c)).map fun c=>mk (cs++c):=by
   intro l
   induction l with
   | nil=>intro o;simp
   | cons r l ih =>
    intro o;rw [List.foldl_cons,ih,visF_eq P mk fs,List.flatMap_cons,List.filter_append,List.map_append,List.append_assoc];congr 1;congr 1;rw [List.filter_map,List.map_map];refine congr (congrArg List.map (funext fun c=>?_)) (List.filter_congr fun c _=>?_)
    ·show mk (cs++[r]++c)=mk (cs++r::c);rw [List.append_assoc];rfl
    ·show P (cs++[r]++c)=P (cs++r::c);rw [List.append_assoc];rfl
  exact h f out
theorem allQ_of {α:Type}:∀ (ps:List (α→Bool)) (cs:List α),(∀ i (h1:i<ps.length) (h2:i<cs.length),ps[i] cs[i]=true)→allQ ps cs=true
 | [],_,_=>rfl
 | _::_,[],_=>rfl
 | p::ps,x::xs,h=>by
  show (p x&&allQ ps xs)=true;rw [show p x=true from h 0 (by simp) (by simp),Bool.true_and];exact allQ_of ps xs fun i h1 h2=>h (i+1) (by simpa using h1) (by simpa using h2)
theorem cont_cover {l:List Table}{p:Pth}{q:Table}{cs:List Rf}(hq:RectT q) (h:contB (shTab l p cs) q=true) {i:Nat}(h1:i<q.cols.length) (h2:i<cs.length):coverB (cellsR l p cs[i]) q.cols[i]=true:=by
 unfold contB at h;rw [Bool.and_eq_true] at h;have hall:=List.all_eq_true.1 h.2;unfold coverB;rw [List.all_eq_true];intro x hx;obtain ⟨k,hk,rfl⟩:=List.getElem_of_mem hx;have hkq:k<rowsN q:=by rw [←hq _ (List.getElem_mem h1)];exact hk
 have ha:=hall k (List.mem_range.2 hkq);unfold anyB at ha;obtain ⟨j,hj,hag⟩:=List.any_eq_true.1 ha;unfold agB at hag;have hc:=List.all_eq_true.1 hag i (List.mem_range.2 h1);have hcell:cellT q i k=q.cols[i].cells[k]:=by
  unfold cellT;rw [List.getD_eq_getElem?_getD (l:=q.cols),List.getElem?_eq_getElem h1];simp [hk]
 rw [hcell] at hc;cases hn:(q.cols[i].cells[k]).null with
 | true=>rfl
 | false =>
  rw [hn,Bool.false_or] at hc;rw [Bool.false_or,List.any_eq_true];unfold fitC at hc;simp only [hn,Bool.not_false,Bool.true_and,Bool.and_eq_true,Bool.not_eq_true',decide_eq_true_eq] at hc;refine ⟨cellT (shTab l p cs) i j,?_,by rw [hc.1,decide_eq_true hc.2.symm];rfl⟩;have hjl:j<(cellsR l p cs[i]).length:=by
   have:=shTab_rows l p cs;have:=List.mem_range.1 hj;rw [cellsR_len];omega
  have hcell2:cellT (shTab l p cs) i j=(cellsR l p cs[i])[j]:=by
   unfold cellT shTab;rw [List.getD_eq_getElem?_getD (l:=cs.map _),List.getElem?_map,List.getElem?_eq_getElem h2];show (cellsR l p cs[i]).getD j _=_;rw [List.getD_eq_getElem?_getD,List.getElem?_eq_getElem hjl];rfl
  rw [hcell2];exact List.getElem_mem _
theorem prog_ans {l:List Table}{p:Pth}{q:Table}(hq:RectT q) (out:List Fnd):visF (ansB l p q) (mkF l p) (q.cols.map fun c=>(refsL (tabsM l p)).filter fun r=>coverB (cellsR l p r) c) [] out=out++ansL l q p:=by
 rw [visF_eq];congr 1;unfold ansL;rw [show (q.cols.map fun c=>(refsL (tabsM l p)).filter fun r=>coverB (cellsR l p r) c)=((q.cols.map fun c r=>coverB (cellsR l p r) c).map fun P=>(refsL (tabsM l p)).filter P) by rw [List.map_map];rfl,prodL_filter,List.length_map,←choicesR_prod,List.filter_filter];simp only [List.nil_append];refine congrArg _ (List.filter_congr fun cs hcs=>?_);obtain ⟨hlen,_⟩:=choicesR_len _ _ cs hcs;cases hb:ansB l p q cs with
 | false=>rw [Bool.false_and]
 | true =>
  rw [Bool.true_and];unfold ansB at hb;rw [Bool.and_eq_true] at hb;refine allQ_of _ _ fun i h1 h2=>?_;rw [List.length_map] at h1;rw [List.getElem_map];exact cont_cover hq hb.2 h1 h2
def pathAns (l:List Table) (q:Table) (p:Pth):List Fnd:=if (rowsL l p).length≤4096 then ansL l q p else []
def fndC (a b:Fnd):Int:=orL [cmpJ (a.p.steps.length:Nat) (b.p.steps.length:Nat),cmpJ a.rows b.rows,ordC a.p b.p,lexC refC a.cs b.cs]
def exE (q:Table):Int:=if validB q=true then (if q.cols.length=0∨3<q.cols.length then 3 else 0) else 1
def findM (l:List Table) (E:List (List Int)) (q:Table) (steps k:Int):List Fnd×Int:=
 if 0≤k∧k≤1024 then (if exE q=0 then (if (exPathsM l E steps).2=0 then ((sortBy fndC ((exPathsM l E steps).1.flatMap (pathAns l q))).take k.toNat,0) else ([],(exPathsM l E steps).2)) else ([],exE q)) else ([],2)
theorem exPathsM_mem {l:List Table}{E:List (List Int)}{steps:Int}{p:Pth}(h:p∈(exPathsM l E steps).1):listB l=true∧(0≤steps∧steps≤4)∧p∈candL l E steps.toNat:=by
 unfold exPathsM at h;split at h
 ·rename_i h1;split at h
  ·rename_i h2;split at h
   ·exact ⟨h1,h2,(sortBy_mem ordC).1 h⟩
   ·cases h
  ·cases h
 ·cases h
theorem candL_valid {l:List Table}{E:List (List Int)}{k:Nat}{p:Pth}(hl:listB l=true) (hk:k≤4) (h:p∈candL l E k):validE l p=0:=by
 unfold candL at h;obtain ⟨a,ha,h⟩:=List.mem_flatMap.1 h;have hf:(findT l a.id).isSome=true:=by
  unfold findT;rw [List.find?_isSome];exact ⟨a,ha,by simp⟩
 unfold candA at h;rcases List.mem_cons.1 h with rfl | h
 ·unfold validE;rw [if_pos hl,if_pos (by simp),if_pos];exact pathB_true hf fun j hj=>(by simp at hj)
 ·obtain ⟨b,_,h⟩:=List.mem_flatMap.1 h;exact (routesL_valid hl hf hk h).1
end Go.Sx.Sp
