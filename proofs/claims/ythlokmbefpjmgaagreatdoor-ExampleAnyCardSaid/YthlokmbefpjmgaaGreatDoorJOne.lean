/- Contracts of counting a node, of finding tables, and of the plan up to its range. -/
import Derived.Test.YthlokmbefpjmgaaGreatDoorQOne
import Derived.Test.YthlokmbefpjmgaaGreatDoorSxFive
import Derived.RangeFuncBox
import Derived.RangeFuncLeaves
import Derived.Shelf.Abstract
import Derived.WalkKit
import Derived.OwnWalkIn
import Derived.TacticsInMore
import Derived.LoopNIn
import Derived.LoopIn
import Derived.Test.YthlokmbefpjmgaaGreatDoorProg
import Derived.RangeFuncFrom
import Derived.Test.YthlokmbefpjmgaaGreatDoorSxFour
set_option linter.unusedVariables false
set_option linter.unusedSimpArgs false
namespace Go.Sx.Sp
open Go Go.Sx Go.Proofs
attribute [local irreducible] GoodW
def ixS (t:Str):List Str→Option Nat
 | []=>none
 | s::l=>if t=s then some 0 else (ixS t l).map (· + 1)
theorem ixS_none {t:Str}:∀ {l:List Str},ixS t l=none↔t∉l
 | []=>by simp [ixS]
 | s::l=>by
  by_cases h:t=s
  ·simp [ixS,h]
  ·simp [ixS,h,ixS_none (l:=l)]
theorem ixS_some {t:Str}:∀ {l:List Str}{i:Nat},ixS t l=some i→l[i]?=some t
 | [],i,h=>by cases h
 | s::l,i,h=>by
  by_cases e:t=s
  ·simp only [ixS,e,if_true,Option.some.injEq] at h;subst h;simp [e]
  ·simp only [ixS,e,if_false,Option.map_eq_some_iff] at h;obtain ⟨j,hj,rfl⟩:=h;simpa using ixS_some hj
def tabE:Nat→List (Str×V)→List (Nat×V×V)
 | _,[]=>[]
 | k,p::l=>(k,.str p.1,p.2)::tabE (k+1) l
def keysT {α:Type}(T:List (Str×α)):List Str:=T.map Prod.fst
theorem tabE_len:∀ (T:List (Str×V)) (k:Nat),(tabE k T).length=T.length
 | [],_=>rfl
 | p::T,k=>by simp [tabE,tabE_len T]
theorem tabE_at (s:Str):∀ (T:List (Str×V)) (k:Nat),mapAt (.str s) (tabE k T)=some ((ixS s (keysT T)).map fun i=>(i,k+i,(T.getD i ([],.dead)).2))
 | [],k=>rfl
 | (u,v)::T,k=>by
  by_cases h:s=u
  ·subst h;simp [tabE,mapAt,eqKey,ixS,keysT]
  ·have:=tabE_at s T (k+1);simp only [tabE,mapAt,eqKey,h,decide_false,this,ixS,keysT,List.map_cons,if_false];simp only [keysT] at this;cases ixS s (T.map Prod.fst) with
   | none=>rfl
   | some i =>
    simp only [Option.map_some];rw [show k+1+i=k+(i+1) by omega];simp
theorem tabE_snoc (s:Str) (v:V):∀ (T:List (Str×V)) (k:Nat),tabE k (T++[(s,v)])=tabE k T++[(k+T.length,.str s,v)]
 | [],k=>rfl
 | p::T,k=>by
  simp only [List.cons_append,tabE,tabE_snoc s v T (k+1),List.length_cons];rw [show k+1+T.length=k+(T.length+1) by omega]
theorem tabE_set (s:Str) (v:V):∀ (T:List (Str×V)) (k j:Nat),(tabE k T).set j (k+j,.str s,v)=tabE k (T.set j (s,v))
 | [],k,j=>rfl
 | p::T,k,0=>rfl
 | p::T,k,j+1=>by
  have:=tabE_set s v T (k+1) j;simp only [tabE,List.set_cons_succ];rw [←this,show k+1+j=k+(j+1) by omega]
theorem tabE_get:∀ (T:List (Str×V)) (k j:Nat),(tabE k T)[j]?=(T[j]?).map fun p=>(k+j,.str p.1,p.2)
 | [],k,j=>by simp [tabE]
 | p::T,k,0=>by simp [tabE]
 | p::T,k,j+1=>by
  simp only [tabE,List.getElem?_cons_succ];rw [tabE_get T (k+1) j,show k+1+j=k+(j+1) by omega]
def lookT (T:List (Str×Int)) (s:Str):Int:=match ixS s (keysT T) with | some j=>(T.getD j ([],0)).2 | none=>0
def addT (T:List (Str×Int)) (s:Str) (n:Int):List (Str×Int):=match ixS s (keysT T) with | some j=>T.set j (s,lookT T s+n) | none=>T++[(s,lookT T s+n)]
def valT (T:List (Str×Int)):List (Str×V):=T.map fun p=>(p.1,.int .i64 p.2)
def sumE (T:List (Str×Int)):List (Nat×V×V):=tabE 0 (valT T)
theorem keysT_val (T:List (Str×Int)):keysT (valT T)=keysT T:=by simp [keysT,valT]
theorem ixS_lt {α:Type}{T:List (Str×α)}{s:Str}{j:Nat}(h:ixS s (keysT T)=some j):j<T.length:=by
 have:=(List.getElem?_eq_some_iff.1 (ixS_some h)).1;simpa [keysT] using this
theorem sumE_look (T:List (Str×Int)) (s:Str):∃ r,mapAt (.str s) (sumE T)=some r∧lookAt (sumE T) (.int .i64 0) false r=.int .i64 (lookT T s):=by
 refine ⟨_,tabE_at s _ 0,?_⟩;rw [keysT_val];unfold lookT;cases h:ixS s (keysT T) with
 | none=>rfl
 | some j =>
  have hj:=ixS_lt h;simp [lookAt,lookRes,valT,hj]
theorem sumE_add (T:List (Str×Int)) (s:Str) (n:Int):∃ r,mapAt (.str s) (sumE T)=some r ∧
  (match r with
   | some (j,b,_)=>(sumE T).set j (b,.str s,.int .i64 (lookT T s+n))=sumE (addT T s n)∧(addT T s n).length=T.length
   | none=>sumE T++[(T.length,.str s,.int .i64 (lookT T s+n))]=sumE (addT T s n)∧(addT T s n).length=T.length+1):=by
 refine ⟨_,tabE_at s _ 0,?_⟩;rw [keysT_val];unfold addT;cases h:ixS s (keysT T) with
 | none =>
  simp only [Option.map_none];refine ⟨?_,by simp⟩;have:=tabE_snoc s (.int .i64 (lookT T s+n)) (valT T) 0;simp only [Nat.zero_add] at this;rw [show (valT T).length=T.length by simp [valT]] at this;unfold sumE;rw [←this];simp [valT]
 | some j =>
  simp only [Option.map_some];refine ⟨?_,by simp⟩;have:=tabE_set s (.int .i64 (lookT T s+n)) (valT T) 0 j;unfold sumE;rw [this];congr 1;simp [valT,List.map_set]
structure Nod where
 t:Table
 par:Int
 fr:Nat
 own:Nat
 kids:List Nat
 done:Option (List Int×List (Str×Int))
def natRows (l:List Nat):List (List V):=l.map fun (n:Nat)=>[.int .i64 (n:Int)]
theorem natRows_len (l:List Nat):(natRows l).length=l.length:=by simp [natRows]
theorem natRows_get {l:List Nat}{i:Nat}(h:i<l.length):(natRows l)[i]?=some [.int .i64 (l[i]:Int)]:=by simp [natRows,h]
def Nod.cv (n:Nod):V:=match n.done with | none=>.nils | some d=>.sl (intRows .i64 d.1) false
def Nod.sv (n:Nod):V:=match n.done with | none=>.nilm | some d=>.dmap (mkD (sumE d.2))
def Nod.rowW (n:Nod) (k c s:V):List V:=[.int .i64 n.t.id,.str n.t.name,.sl (colRows n.t.cols) false,.int .i64 n.par,.int .i64 n.fr,.int .i64 n.own,k,c,s]
def Nod.row (n:Nod):List V:=n.rowW (.sl (natRows n.kids) false) n.cv n.sv
def nodRows (l:List Nod):List (List V):=l.map Nod.row
theorem nodRows_len (l:List Nod):(nodRows l).length=l.length:=by simp [nodRows]
theorem nodRows_get {l:List Nod}{i:Nat}(h:i<l.length):(nodRows l)[i]?=some l[i].row:=by simp [nodRows,h]
theorem Nod.pure (n:Nod):∀ v∈n.row,v.one=true∧v.sites=[]:=by
 obtain ⟨t,par,fr,own,kids,done⟩:=n;intro v hv;cases done<;>simp only [Nod.row,Nod.rowW,Nod.cv,Nod.sv,List.mem_cons,List.not_mem_nil,or_false] at hv<;>rcases hv with rfl | rfl | rfl | rfl | rfl | rfl | rfl | rfl | rfl<;>exact ⟨rfl,rfl⟩
def cellT (t:Table) (k r:Nat):Cell:=((t.cols.getD k ⟨[],[]⟩).cells).getD r ⟨false,[]⟩
set_option maxHeartbeats 1000000 in
theorem column_spec (t:Table) (k:Nat) (hk:k<t.cols.length):Spec Tryz.prog 140 [.agg [.int .i64 t.id,.str t.name,.sl (colRows t.cols) false,.dead,.dead,.dead,.dead,.dead,.dead],.int .i64 k] [] (.sl (cellRows (t.cols[k]).cells) false) []:=by
 have hx:=colRows_get hk;generalize t.cols[k]=c at *;refine gEn env Tryz.func140 fun Γ hN hK hML=>?_;exact gR
theorem ixS_set {T:List (Str×Int)}{s:Str}{j:Nat}{v:Int}(h:ixS s (keysT T)=some j):keysT (T.set j (s,v))=keysT T:=by
 have h1:=ixS_some h;have hj:=ixS_lt h;unfold keysT at *;rw [List.map_set];exact set_same h1
theorem ixS_app {s:Str}:∀ {a b:List Str},ixS s (a++b)=match ixS s a with | some j=>some j | none=>(ixS s b).map (· + a.length)
 | [],b=>by simp [ixS]
 | u::a,b=>by
  by_cases h:s=u
  ·simp [ixS,h]
  ·simp only [List.cons_append,ixS,h,if_false,ixS_app (a:=a)];cases ixS s a with
   | some j=>rfl
   | none =>
    simp only [Option.map_none];cases ixS s b with
    | none=>rfl
    | some j=>simp only [Option.map_some,List.length_cons];congr 1
theorem lookT_add (T:List (Str×Int)) (s u:Str) (n:Int):lookT (addT T s n) u=if u=s then lookT T s+n else lookT T u:=by
 unfold addT;cases h:ixS s (keysT T) with
 | some j =>
  have hj:=ixS_lt h;simp only;generalize lookT T s+n=x;unfold lookT;rw [ixS_set h];by_cases e:u=s
  ·subst e;rw [h,if_pos rfl];simp [hj]
  ·rw [if_neg e];cases h2:ixS u (keysT T) with
   | none=>rfl
   | some q =>
    have hne:j≠q:=fun e2=>by
     subst e2;have a1:=ixS_some h;have a2:=ixS_some h2;rw [a1] at a2;exact e (Option.some.inj a2).symm
    simp [hne]
 | none =>
  simp only;generalize lookT T s+n=x;unfold lookT;rw [show keysT (T++[(s,x)])=keysT T++[s] by simp [keysT],ixS_app];by_cases e:u=s
  ·subst e;rw [h,if_pos rfl];simp [ixS,keysT]
  ·rw [if_neg e];cases h2:ixS u (keysT T) with
   | none=>simp [ixS,e]
   | some q =>
    have:=ixS_lt h2;simp [List.getElem?_append_left this]
def Nod.tal (n:Nod):List (Str×Int):=match n.done with | some d=>d.2 | none=>[]
def mulK (t:Table) (r:Nat) (x:Int) (k:Nod):Int:=if (cellT t k.fr r).null=true then 0 else x*lookT k.tal (cellT t k.fr r).text
def cntR (ks:List Nod) (t:Table) (r:Nat):Int:=ks.foldl (mulK t r) 1
def talR (t:Table) (own:Nat) (cnt:Nat→Int):Nat→List (Str×Int)
 | 0=>[]
 | r+1=>if (cellT t own r).null=true then talR t own cnt r else addT (talR t own cnt r) (cellT t own r).text (cnt r)
def kidsOf (R:List Nod) (n:Nod):List Nod:=n.kids.map fun k=>R.getD k n
def doneR (R:List Nod) (i:Nat) (n:Nod):Nod:={ n with done:=some ((List.range (rowsN n.t)).map (cntR (kidsOf R n) n.t),if i=0 then [] else talR n.t n.own (cntR (kidsOf R n) n.t) (rowsN n.t)) }
theorem talR_bound {t:Table}{own:Nat}{cnt:Nat→Int}{M:Int}{n:Nat}(h:∀ r,r<n→0≤cnt r∧cnt r≤M) (hM:0≤M):∀ r,r≤n→∀ s,0≤lookT (talR t own cnt r) s∧lookT (talR t own cnt r) s≤r*M
 | 0,_,s=>by simp [talR,lookT,keysT,ixS]
 | r+1,hr,s=>by
  have ih:=talR_bound (t:=t) (own:=own) h hM r (by omega);have h1:=h r (by omega);have e:((r+1:Nat):Int)*M=r*M+M:=by rw [Int.natCast_add,Int.add_mul];simp
  unfold talR;split
  ·have:=ih s;rw [e];omega
  ·rw [lookT_add];split
   ·have:=ih (cellT t own r).text;rw [e];omega
   ·have:=ih s;rw [e];omega
def cntsA (m:Nat) (f:Nat→Int) (r:Nat):List (List V):=(List.range m).map fun j=>[.int .i64 (if j<r then f j else 0)]
theorem cntsA_len (m:Nat) (f:Nat→Int) (r:Nat):(cntsA m f r).length=m:=by simp [cntsA]
theorem cntsA_zero (m:Nat) (f:Nat→Int):List.replicate m [V.int .i64 0]=cntsA m f 0:=by
 refine List.ext_getElem (by simp [cntsA]) fun j h1 h2=>?_;simp [cntsA]
theorem cntsA_get {m:Nat}{f:Nat→Int}{r:Nat}(h:r<m):(cntsA m f r)[r]?=some [.int .i64 0]:=by simp [cntsA,h]
theorem cntsA_set {m:Nat}{f:Nat→Int}{r:Nat}(h:r<m):(cntsA m f r).set r [.int .i64 (f r)]=cntsA m f (r+1):=by
 refine List.ext_getElem? fun j=>?_;rw [List.getElem?_set];by_cases hj:r=j
 ·subst hj;simp [cntsA,h]
 ·rw [if_neg hj];rcases Nat.lt_or_ge j m with h1 | h1
  ·simp only [cntsA,List.getElem?_map,List.getElem?_range,h1,Option.map_some];have:j<r↔j<r+1:=by omega
   simp [this]
  ·simp [cntsA,h1]
theorem cntsA_end (m:Nat) (f:Nat→Int):cntsA m f m=intRows .i64 ((List.range m).map f):=by
 unfold cntsA intRows;rw [List.map_map];exact List.map_congr_left fun j hj=>by simp [List.mem_range.1 hj]
theorem cntR_snoc (ks:List Nod) (t:Table) (r:Nat) {j:Nat}(h:j<ks.length):cntR (ks.take (j+1)) t r=mulK t r (cntR (ks.take j) t r) ks[j]:=by
 unfold cntR;rw [List.take_succ_eq_append_getElem h,List.foldl_append];rfl
theorem node_freeze {H:Nat→List Blk}{bo:List Nat}{n:Nod}{a b m clock:Nat}{l:List Int}{T:List (Str×Int)}(ha:memB a bo=true) (hb:memB b bo=true) (h1:H a=[.rows 1 (intRows .i64 l) (some [])]) (h2:H b=[.map (sumE T) clock (some [])]) (hl:l.length=m) (k:List (List V)) :
  ∀ (q:Nat) v1,(n.rowW (.sl k false) (.sl (intRows .i64 l) false) (.dmap (mkD (sumE T))))[q]?=some v1→∃ v,(n.rowW (.sl k false) (.osl a 0 0 m m) (.omap b 0))[q]?=some v∧Lent H bo v v1∧v1.one=true∧v1.sites=[]:=by
 intro q v1 hq;have hil:=intRows_len .i64 l
 match q,hq with
 | 0,hq=>cases hq;exact ⟨_,rfl,.refl _,rfl,rfl⟩
 | 1,hq=>cases hq;exact ⟨_,rfl,.refl _,rfl,rfl⟩
 | 2,hq=>cases hq;exact ⟨_,rfl,.refl _,rfl,rfl⟩
 | 3,hq=>cases hq;exact ⟨_,rfl,.refl _,rfl,rfl⟩
 | 4,hq=>cases hq;exact ⟨_,rfl,.refl _,rfl,rfl⟩
 | 5,hq=>cases hq;exact ⟨_,rfl,.refl _,rfl,rfl⟩
 | 6,hq=>cases hq;exact ⟨_,rfl,.refl _,rfl,rfl⟩
 | 7,hq =>
  cases hq;refine ⟨_,rfl,?_,rfl,rfl⟩;have:=Lent.oslF (H:=H) (bo:=bo) a 0 0 m m 1 (intRows .i64 l) (some []) ha (by rw [h1];rfl) (by omega) (.inl rfl);rw [List.drop_zero,List.take_of_length_le (by omega)] at this;exact this
 | 8,hq =>
  cases hq;exact ⟨_,rfl,.omapF b 0 (sumE T) clock (some []) hb (by rw [h2];rfl) (.inl rfl),rfl,rfl⟩
 | q+9,hq=>cases hq
theorem set_at {α:Type}{l:List α}{i:Nat}{r:α}(h:i<l.length):(l.set i r)[i]?=some r:=by simp [h]
set_option maxHeartbeats 16000000 in
theorem count_spec (R:List Nod) (i:Nat) (hi:i<R.length) (hR:R.length≤100) (hv:∀ c∈R[i].t.cols,c.cells.length=rowsN R[i].t) (hrows:rowsN R[i].t≤4096) (hkl:R[i].kids.length≤100)
  (hkids:∀ k∈R[i].kids,∃ (h:k<R.length),i≠k∧R[k].fr<R[i].t.cols.length∧∃ d,R[k].done=some d) (hown:i≠0→R[i].own<R[i].t.cols.length)
  (hB:∀ r,r<rowsN R[i].t→∀ j,j≤R[i].kids.length→0≤cntR ((kidsOf R R[i]).take j) R[i].t r∧cntR ((kidsOf R R[i]).take j) R[i].t r≤1125899906842624) :
  Spec Tryz.prog 139 [.bp 0 0,.int .i64 i] [(0,.rows 1 [[.osl 1 0 0 (nodRows R).length (nodRows R).length]] none),(1,.rows 9 (nodRows R) (some []))] (.tup [])
   [(0,.rows 1 [[.osl 1 0 0 (nodRows R).length (nodRows R).length]] none),(1,.rows 9 (nodRows (R.set i (doneR R i R[i]))) (some []))]:=by
 have hRl:=nodRows_len R;have hx:=nodRows_get hi;have hxs:∀ r,((nodRows R).set i r)[i]?=some r:=fun r=>by simp [hRl,hi]
 generalize hn:R[i]=n at *;have sp2:=rows_spec n.t;refine gEn env Tryz.func139 fun Γ hN hK hML=>?_;refine g ?_;refine And.intro ⟨by omega,by omega,show (rowsN n.t:Int)*8≤140737488355328 by omega,by omega⟩ ?_;rw [Int.toNat_natCast];(conv=>whnf);refine g ?_;refine And.intro (by rw [List.length_set]) ?_;refine rowAt_of (set_at (by omega)) ?_;(conv=>whnf);refine gGs ?_;refine gA ?_;refine W.leG (mp:=[(0,0),(1,1),(23,23),(27,27)]) (bo:=[]) (st':=⟨[(0,.bp 0 0),(1,.int .i64 i),(4,.pel 1 0 i 0 (nodRows R).length)],[(0,[.rows 1 [[.osl 1 0 0 (nodRows R).length (nodRows R).length]] none]),(1,[.rows 9 ((nodRows R).set i (n.rowW (.sl (natRows n.kids) false) (.osl 23 0 0 (rowsN n.t) (rowsN n.t)) (.omap 27 0))) (some [27,23])]),(23,[.rows 1 (List.replicate (rowsN n.t) [.int .i64 0]) (some [])]),(27,[.map [] 0 (some [])])],[0,1,23,27]⟩)
  (LeG.mk' rfl rfl rfl (by refine ⟨⟨_,.refl _,rfl⟩,⟨_,.refl _,rfl⟩,⟨_,.refl _,by first | rfl | (rw [Nat.zero_add];rfl) | (simp only [Nat.zero_add];rfl)⟩,trivial⟩) (.ci 0 (.cons 1 rfl rfl (.refl _) ?_ (.ci 23 (.ci 27 .nil)))) rfl rfl (by rw [hK];rfl)) ?_
 ·show [Blk.rows 9 _ _]=[Blk.rows 9 (List.set (List.set (nodRows R) (0+i) _) (0+i) _) _]
  rw [List.set_set,Nat.zero_add];rfl
 have hLX:(nodRows R).length=((nodRows R).set i (n.rowW (.sl (natRows n.kids) false) (.osl 23 0 0 (rowsN n.t) (rowsN n.t)) (.omap 27 0))).length:=by rw [List.length_set]
 have hgX:((nodRows R).set i (n.rowW (.sl (natRows n.kids) false) (.osl 23 0 0 (rowsN n.t) (rowsN n.t)) (.omap 27 0)))[i]?=some (n.rowW (.sl (natRows n.kids) false) (.osl 23 0 0 (rowsN n.t) (rowsN n.t)) (.omap 27 0)):=set_at (by omega);have hgK:∀ k (h:k<R.length),i≠k→((nodRows R).set i (n.rowW (.sl (natRows n.kids) false) (.osl 23 0 0 (rowsN n.t) (rowsN n.t)) (.omap 27 0)))[k]?=some R[k].row:=fun k h hne=>by
  rw [List.getElem?_set_ne hne,nodRows_get h]
 rw [cntsA_zero (rowsN n.t) (cntR (kidsOf R n) n.t)];have hkl2:=natRows_len n.kids;have hkl3:(kidsOf R n).length=n.kids.length:=by simp [kidsOf]
 have hBf:∀ r,r<rowsN n.t→0≤cntR (kidsOf R n) n.t r∧cntR (kidsOf R n) n.t r≤1125899906842624:=fun r hr=>by
  have:=hB r hr n.kids.length (Nat.le_refl _)
  rwa [←hkl3,List.take_length] at this
 have htb:=talR_bound (t:=n.t) (own:=n.own) hBf (by omega);generalize hRX:(nodRows R).set i (n.rowW (.sl (natRows n.kids) false) (.osl 23 0 0 (rowsN n.t) (rowsN n.t)) (.omap 27 0))=RX at *;generalize hF:cntR (kidsOf R n) n.t=F at *;have hc0:=cntsA_len (rowsN n.t) F 0;obtain ⟨G,hG⟩:∃ G:Nat→List (Str×Int),G=fun r=>if i=0 then [] else talR n.t n.own F r:=⟨_,rfl⟩
 have hG0:G 0=[]:=by rw [hG];by_cases h:i=0<;>simp [h,talR]
 have hGz:i=0→∀ r,G r=[]:=fun h r=>by rw [hG];simp [h]
 have hGn:i≠0→∀ r,G r=talR n.t n.own F r:=fun h r=>by rw [hG];simp [h]
 (refine g ?_;intros);refine W.loopG (fun m st=>∃ r:Nat,r≤rowsN n.t∧m=rowsN n.t-r∧st=⟨[(0,.bp 0 0),(1,.int .i64 i),(4,.pel 1 0 i 0 (nodRows R).length),(34,.int .i64 (rowsN n.t)),(35,.int .i64 r)],[(0,[.rows 1 [[.osl 1 0 0 (nodRows R).length (nodRows R).length]] none]),(1,[.rows 9 RX (some [27,23])]),(23,[.rows 1 (cntsA (rowsN n.t) F r) (some [])]),(27,[.map (sumE (G r)) (G r).length (some [])])],[0,1,23,27]⟩)
  (rowsN n.t) _ ⟨0,by omega,by omega,rfl⟩ ⟨[(0,0),(1,1),(23,23),(27,27)],[],[],LeG.mq (.ci 0 (.ci 1 (.ci 23 (.cons 27 rfl rfl (.refl _) (by rw [hG0];rfl) .nil))))⟩ ?_
 rintro m st ⟨r,hr,rfl,rfl⟩;have hcr:=cntsA_len (rowsN n.t) F r;refine gT (fun hb=>?_) fun hb=>?_
 ·have hlt:r<rowsN n.t:=by omega
  have hcg:=cntsA_get (f:=F) hlt;(refine g ?_;intros);generalize hC:cntsA (rowsN n.t) F r=C at *;refine W.loopG (fun m st=>∃ j:Nat,j≤n.kids.length∧m=n.kids.length-j∧st=⟨[(0,.bp 0 0),(1,.int .i64 i),(4,.pel 1 0 i 0 (nodRows R).length),(34,.int .i64 (rowsN n.t)),(35,.int .i64 r),(5,.int .i64 r),(47,.sl (natRows n.kids) false),(48,.int .i64 (natRows n.kids).length),(49,.int .i64 j)],[(0,[.rows 1 [[.osl 1 0 0 (nodRows R).length (nodRows R).length]] none]),(1,[.rows 9 RX (some [27,23])]),(23,[.rows 1 (C.set r [.int .i64 (cntR ((kidsOf R n).take j) n.t r)]) (some [])]),(27,[.map (sumE (G r)) (G r).length (some [])])],[0,1,23,27]⟩)
   n.kids.length _ ⟨0,by omega,by omega,rfl⟩ ⟨[(0,0),(1,1),(23,23),(27,27)],[],[],LeG.mq (.ci 0 (.ci 1 (.cons 23 rfl rfl (.refl _) (by rw [Nat.zero_add,Int.toNat_natCast];rfl) (.ci 27 .nil))))⟩ ?_
  rintro m st ⟨j,hj,rfl,rfl⟩;refine gT (fun hb=>?_) fun hb=>?_
  ·have hjl:j<n.kids.length:=by omega
   obtain ⟨q,kd,d1,d2,cc,c,hkg,hqR,hkx,hfl,hcl,hcg2,hsn,hb1,hb0⟩:∃ (q:Nat) (kd:Nod) (d1:List Int) (d2:List (Str×Int)) (cc:List Cell) (c:Cell),(natRows n.kids)[j]?=some [.int .i64 (q:Int)]∧q<R.length ∧
     RX[q]?=some (kd.rowW (.sl (natRows kd.kids) false) (.sl (intRows .i64 d1) false) (.dmap (mkD (sumE d2)))) ∧
     Spec Tryz.prog 140 [.agg [.int .i64 n.t.id,.str n.t.name,.sl (colRows n.t.cols) false,.dead,.dead,.dead,.dead,.dead,.dead],.int .i64 kd.fr] [] (.sl (cellRows cc) false) [] ∧
     (cellRows cc).length=rowsN n.t∧(cellRows cc)[r]?=some c.row∧cntR ((kidsOf R n).take (j+1)) n.t r=(if c.null=true then 0 else cntR ((kidsOf R n).take j) n.t r*lookT d2 c.text) ∧
     (-9223372036854775808≤(if c.null=true then 0 else cntR ((kidsOf R n).take j) n.t r*lookT d2 c.text)∧(if c.null=true then 0 else cntR ((kidsOf R n).take j) n.t r*lookT d2 c.text)≤9223372036854775807)∧rowsN n.t≤4096:=by
    have hkg:=natRows_get hjl;obtain ⟨hkR,hik,hkf,dd,hdd⟩:=hkids _ (List.getElem_mem hjl);have hkx:=hgK _ hkR hik;have hks:(kidsOf R n)[j]'(by omega)=R[n.kids[j]]:=by simp [kidsOf,hkR]
    have hsn:=cntR_snoc (kidsOf R n) n.t r (j:=j) (by omega);rw [hks] at hsn;have hb1:=hB r hlt (j+1) (by omega);rw [hsn] at hb1;have hcc:(n.t.cols[R[n.kids[j]].fr]).cells.length=rowsN n.t:=hv _ (List.getElem_mem hkf);have hcg2:=cellRows_get (l:=(n.t.cols[R[n.kids[j]].fr]).cells) (i:=r) (by omega);have hct:(n.t.cols[R[n.kids[j]].fr]).cells[r]'(by omega)=cellT n.t R[n.kids[j]].fr r:=by simp [cellT,hkf,hcc,hlt]
    rw [hct] at hcg2;have hrw:R[n.kids[j]].row=R[n.kids[j]].rowW (.sl (natRows R[n.kids[j]].kids) false) (.sl (intRows .i64 dd.1) false) (.dmap (mkD (sumE dd.2))):=by
     unfold Nod.row Nod.cv Nod.sv;rw [hdd]
    rw [hrw] at hkx;have htal:R[n.kids[j]].tal=dd.2:=by unfold Nod.tal;rw [hdd]
    unfold mulK at hsn hb1;rw [htal] at hsn hb1;exact ⟨n.kids[j],R[n.kids[j]],dd.1,dd.2,(n.t.cols[R[n.kids[j]].fr]).cells,cellT n.t R[n.kids[j]].fr r,hkg,hkR,hkx,column_spec n.t R[n.kids[j]].fr hkf,by rw [cellRows_len];exact hcc,hcg2,hsn,by omega,hrows⟩
   generalize hxj:cntR (List.take j (kidsOf R n)) n.t r=xj at *;have hcs:(C.set r [V.int .i64 xj]).length=rowsN n.t:=by rw [List.length_set];exact hcr
   have hcx:(C.set r [V.int .i64 xj])[r]?=some [V.int .i64 xj]:=set_at (by omega);refine gGo ?_;refine rowAt_of (by simpa using hkg) ?_;(conv=>whnf);refine gGo ?_;refine rowAt_of hgX ?_;(conv=>whnf);refine gGo ?_;refine rowAt_of (by simpa using hkx) ?_;(conv=>whnf);refine gGo ?_;(refine ⟨_,_,_,callG [] [] [] rfl rfl rfl (by kernel_rfl) (hfl) (by refine ⟨Lent.row ?_,Lent.refl _,trivial⟩;repeat' (first | exact trivial | exact ⟨Lent.refl _,rfl⟩ | exact ⟨Lent.dead _,rfl⟩ | apply And.intro)) rfl ⟨rfl,rfl,rfl,rfl,rfl,by repeat' (first | exact trivial | rfl | apply And.intro),rfl,rfl⟩,?_⟩;conv=>whnf);refine g ?_;cases hnull:c.null with
   | true =>
    (conv=>whnf);refine g ?_;refine ⟨_,_,?_,⟨j+1,by omega,rfl,rfl⟩,[(0,0),(1,1),(23,23),(27,27)],[],[],LeG.mq (.ci 0 (.ci 1 (.cons 23 rfl rfl (.refl _) ?_ (.ci 27 .nil))))⟩
    ·omega
    ·rw [hsn,if_pos hnull,←List.set_set (a:=[V.int .i64 xj])];simp only [Nat.zero_add,Int.toNat_natCast];rfl
   | false =>
    rw [if_neg (by rw [hnull];decide)] at hsn hb1;obtain ⟨r0,hr1,hr2⟩:=sumE_look d2 c.text;(conv=>whnf);refine g ?_;refine zok_intro (by kernel_rfl) ?_;(conv=>whnf);refine ⟨_,rfl,r0,hr1,?_⟩;rw [hr2];(conv=>whnf);refine g ?_;refine ⟨_,_,?_,⟨j+1,by omega,rfl,rfl⟩,[(0,0),(1,1),(23,23),(27,27)],[],[],LeG.mq (.ci 0 (.ci 1 (.cons 23 rfl rfl (.refl _) ?_ (.ci 27 .nil))))⟩
    ·omega
    ·rw [hsn,←List.set_set (a:=[V.int .i64 xj])];simp only [Nat.zero_add,Int.toNat_natCast];rfl
  ·have hje:j=n.kids.length:=by omega
   rw [hje,←hkl3,List.take_length,hF];have hcx:(C.set r [V.int .i64 (F r)])[r]?=some [V.int .i64 (F r)]:=set_at (by omega);have hcs:(C.set r [V.int .i64 (F r)]).length=rowsN n.t:=by rw [List.length_set];exact hcr
   have hcn:C.set r [V.int .i64 (F r)]=cntsA (rowsN n.t) F (r+1):=by rw [←hC];exact cntsA_set hlt
   have hFr:=hBf r hlt;refine gGo ?_;by_cases hi0:i=0
   ·refine gK (by omega) ?_;(conv=>whnf);refine gGo ?_;refine ⟨_,_,?_,⟨r+1,by omega,rfl,rfl⟩,[(0,0),(1,1),(23,23),(27,27)],[],[],LeG.mq (.ci 0 (.ci 1 (.cons 23 rfl rfl (.refl _) ?_ (.cons 27 rfl rfl (.refl _) ?_ .nil))))⟩
    ·omega
    ·rw [←hcn];rfl
    ·rw [hGz hi0,hGz hi0];rfl
   ·refine gL (by omega) ?_;obtain ⟨cc,c,hfl,hcl,hcg2,hsn⟩:∃ (cc:List Cell) (c:Cell),
      Spec Tryz.prog 140 [.agg [.int .i64 n.t.id,.str n.t.name,.sl (colRows n.t.cols) false,.dead,.dead,.dead,.dead,.dead,.dead],.int .i64 n.own] [] (.sl (cellRows cc) false) [] ∧
      (cellRows cc).length=rowsN n.t∧(cellRows cc)[r]?=some c.row∧G (r+1)=if c.null=true then G r else addT (G r) c.text (F r):=by
     have hko:=hown hi0;have hcc:(n.t.cols[n.own]).cells.length=rowsN n.t:=hv _ (List.getElem_mem hko);have hcg2:=cellRows_get (l:=(n.t.cols[n.own]).cells) (i:=r) (by omega);have hct:(n.t.cols[n.own]).cells[r]'(by omega)=cellT n.t n.own r:=by simp [cellT,hko,hcc,hlt]
     rw [hct] at hcg2;exact ⟨_,cellT n.t n.own r,column_spec n.t n.own hko,by rw [cellRows_len];exact hcc,hcg2,by rw [hGn hi0,hGn hi0];rfl⟩
    (conv=>whnf);refine gGo ?_;refine rowAt_of hgX ?_;(conv=>whnf);refine gGo ?_;refine rowAt_of hgX ?_;(conv=>whnf);refine gGo ?_;(refine ⟨_,_,_,callG [] [] [] rfl rfl rfl (by kernel_rfl) (hfl) (by refine ⟨Lent.row ?_,Lent.refl _,trivial⟩;repeat' (first | exact trivial | exact ⟨Lent.refl _,rfl⟩ | exact ⟨Lent.dead _,rfl⟩ | apply And.intro)) rfl ⟨rfl,rfl,rfl,rfl,rfl,by repeat' (first | exact trivial | rfl | apply And.intro),rfl,rfl⟩,?_⟩;conv=>whnf);refine g ?_;cases hnull:c.null with
    | true =>
     (conv=>whnf);refine gGo ?_;refine ⟨_,_,?_,⟨r+1,by omega,rfl,rfl⟩,[(0,0),(1,1),(23,23),(27,27)],[],[],LeG.mq (.ci 0 (.ci 1 (.cons 23 rfl rfl (.refl _) ?_ (.cons 27 rfl rfl (.refl _) ?_ .nil))))⟩
     ·omega
     ·rw [←hcn];rfl
     ·rw [hsn,if_pos hnull];rfl
    | false =>
     rw [if_neg (by rw [hnull];decide)] at hsn;obtain ⟨r0,hr1,hr2⟩:=sumE_look (G r) c.text;obtain ⟨r1,hq1,hq2⟩:=sumE_add (G r) c.text (F r);have hlb:0≤lookT (G r) c.text∧lookT (G r) c.text≤r*1125899906842624:=by rw [hGn hi0];exact htb r (by omega) c.text
     (conv=>whnf);refine g ?_;refine zok_intro (by kernel_rfl) ?_;(conv=>whnf);refine ⟨r0,hr1,?_⟩;rw [hr2];(conv=>whnf);refine g ?_;refine ⟨r1,hq1,?_⟩;cases r1 with
     | none =>
      (conv=>whnf);refine gGo ?_;refine ⟨_,_,?_,⟨r+1,by omega,rfl,rfl⟩,[(0,0),(1,1),(23,23),(27,27)],[],[],LeG.mq (.ci 0 (.ci 1 (.cons 23 rfl rfl (.refl _) ?_ (.cons 27 rfl rfl (.refl _) ?_ .nil))))⟩
      ·omega
      ·rw [←hcn];rfl
      ·rw [hsn,←hq2.1,hq2.2];rfl
     | some p =>
      obtain ⟨jj,bb,vv⟩:=p;(conv=>whnf);refine gGo ?_;refine ⟨_,_,?_,⟨r+1,by omega,rfl,rfl⟩,[(0,0),(1,1),(23,23),(27,27)],[],[],LeG.mq (.ci 0 (.ci 1 (.cons 23 rfl rfl (.refl _) ?_ (.cons 27 rfl rfl (.refl _) ?_ .nil))))⟩
      ·omega
      ·rw [←hcn];rfl
      ·rw [hsn,←hq2.1,hq2.2];rfl
 ·have hre:r=rowsN n.t:=by omega
  rw [hre,cntsA_end];have hD:doneR R i n={ n with done:=some ((List.range (rowsN n.t)).map F,G (rowsN n.t)) }:=by
   unfold doneR;rw [hF,hG]
  have hDr:(doneR R i n).row=n.rowW (.sl (natRows n.kids) false) (.sl (intRows .i64 ((List.range (rowsN n.t)).map F)) false) (.dmap (mkD (sumE (G (rowsN n.t))))):=by rw [hD];rfl
  refine W.leG (mp:=[(0,0),(1,1)]) (bo:=[23,27]) (st':=⟨[(36,.bool false)],[(0,[.rows 1 [[.osl 1 0 0 (nodRows R).length (nodRows R).length]] none]),(1,[.rows 9 (nodRows (R.set i (doneR R i n))) (some [])])],[0,1]⟩)
   (LeG.mq (.ci 0 (.cons 1 (b1:=.rows 9 (nodRows (R.set i (doneR R i n))) (some [])) rfl rfl (.rowsF 9 _ _ _ ?_ ?_) rfl .nil))) ?_
  ·rw [←hLX,nodRows_len,nodRows_len,List.length_set]
  ·intro j r1 hj;rw [nodRows,List.map_set] at hj;by_cases hij:i=j
   ·subst hij;rw [List.getElem?_set_self (by simp [hi]),hDr] at hj;cases hj;exact ⟨_,hgX,rfl,node_freeze rfl rfl rfl rfl (by simp) _⟩
   ·rw [List.getElem?_set_ne hij] at hj;have hjl:j<R.length:=by
     have:=(List.getElem?_eq_some_iff.1 hj).1;simpa using this
    rw [List.getElem?_map,List.getElem?_eq_getElem hjl] at hj;cases hj;refine ⟨_,hgK j hjl hij,rfl,fun q v1 hq=>⟨v1,hq,.refl _,?_⟩⟩;exact R[j].pure v1 (List.mem_of_getElem? hq)
  ·refine gGo ?_;exact retHn rfl (.refl _) rfl rfl rfl ⟨rfl,rfl,rfl,rfl,trivial⟩
theorem fitsN {n b:Nat}(h:n*b≤70368744177664) (h1:n≤70368744177664):fitsV n b:=⟨by omega,by omega⟩
theorem cellRows_sz (l:List Cell):rowsSz (cellRows l) 2:=by
 unfold rowsSz;intro r hr;obtain ⟨c,_,rfl⟩:=List.mem_map.1 hr;rfl
theorem fitN {n b:Nat}(h:n≤4294967296) (hb:0<b∧b≤1024):fitsV n b:=by
 obtain ⟨h0,h1⟩:=hb;have h2:n*b≤4294967296*1024:=Nat.mul_le_mul h h1;exact ⟨by omega,by omega⟩
set_option maxHeartbeats 1000000 in
theorem cloneCells (rows:List (List V)) (hz:rowsSz rows 2) (hlen:rows.length≤4294967296):Spec Tryz.prog 165 [.sl rows false] [] (.sl rows false) []:=by
 have hfit:fitsV rows.length 24:=fitN hlen (by omega);refine gEn env Tryz.func165 fun Γ hN hK hML=>?_;cases rows with
 | nil =>
  refine gA ?_;(refine gE env hN (by kernel_rfl) ?_;conv=>whnf);refine W.nilSplit (full:=false) 0 (by rfl) ?_ ?_
  ·exact gR
  ·refine gGl ?_;refine Or.inl ?_;(conv=>whnf);refine gGo ?_;refine ⟨⟨trivial,rfl⟩,⟨by decide,by decide⟩,.inl ⟨rfl,rfl,?_⟩⟩;(conv=>whnf);refine gGo ?_;refine W.leG (mp:=[]) (bo:=[5]) (st':=⟨[(2,.sl [] false)],[],[]⟩) (LeG.mk' rfl rfl rfl ⟨⟨_,Lent.whole rfl rfl rfl rfl (.inl rfl),rfl⟩,trivial⟩ .nil rfl rfl (by rw [hK];rfl)) ?_;(refine gM ?_;conv=>whnf);exact ret0 rfl rfl rfl
 | cons r rs =>
  refine gGl ?_;refine Or.inl ?_;(conv=>whnf);refine gGo ?_;refine ⟨⟨hz,rfl⟩,by simpa using hfit,.inl ⟨rfl,rfl,?_⟩⟩;simp only [Nat.zero_add,List.nil_append];(conv=>whnf);refine gGo ?_;refine W.leG (mp:=[]) (bo:=[5]) (st':=⟨[(2,.sl (r::rs) false)],[],[]⟩) (LeG.mk' rfl rfl rfl ⟨⟨_,Lent.whole rfl rfl rfl rfl (.inl rfl),rfl⟩,trivial⟩ .nil rfl rfl (by rw [hK];rfl)) ?_;(refine gM ?_;conv=>whnf);exact ret0 rfl rfl rfl
def idB (n:Int) (t:Table):Bool:=decide (t.id=n)
theorem idB_spec (n:Int) (t:Table):Spec Tryz.prog 164 [.agg t.row,.ro [.int .i64 n] 0] [] (.bool (idB n t)) []:=by
 refine gEn env Tryz.func164 fun Γ hN hK hML=>?_;refine gT (fun hb=>?_) fun hb=>?_
 ·refine gGr ?_;exact ret0 rfl (congrArg V.bool (by unfold idB;exact (decide_eq_true hb).symm)) rfl
 ·refine gGr ?_;exact ret0 rfl (congrArg V.bool (by unfold idB;exact (decide_eq_false hb).symm)) rfl
set_option maxHeartbeats 2000000 in
theorem indexTab_spec (q:Int) (l:List Table):Spec Tryz.prog 163 [.sl (tblRows l) false,.fn 164 [.ro [.int .i64 q] 0]] [] (.int .i64 (ixFrom (idB q) l 0)) []:=by
 have hrl:(tblRows l).length=l.length:=by simp [tblRows]
 refine gEn env Tryz.func163 fun Γ hN hK hML=>?_;refine gGo ?_;intros;refine W.loopG (fun n st=>∃ k:Nat,k≤l.length∧ixFrom (idB q) l 0=ixFrom (idB q) (l.drop k) k∧n=l.length-k∧st=⟨[(0,.sl (tblRows l) false),(1,.fn 164 [.ro [.int .i64 q] 0]),(7,.int .i64 (tblRows l).length),(8,.int .i64 k)],[],[]⟩)
  l.length _ ⟨0,by omega,rfl,by omega,rfl⟩ gX ?_
 rintro n st ⟨k,hk,hix,rfl,rfl⟩;refine gT (fun hb=>?_) fun hb=>?_
 ·have hlt:k<l.length:=by omega
  have hx:(tblRows l)[k]?=some (l[k]).row:=by simp [tblRows,hlt]
  have sp:=idB_spec q l[k];rw [List.drop_eq_getElem_cons hlt] at hix;generalize l[k]=x at *;simp only [ixFrom] at hix;refine g ?_;cases hb2:(idB q) x with
  | true =>
   rw [hb2] at sp hix;refine g ?_;refine gGr ?_;exact ret0 rfl (congrArg (V.int .i64) (by rw [hix];rfl)) rfl
  | false =>
   rw [hb2] at sp hix;refine g ?_;refine ⟨_,_,?_,⟨k+1,by omega,?_,rfl,rfl⟩,gX⟩
   ·omega
   ·rw [hix];rfl
 ·have hke:k=l.length:=by omega
  rw [hke,List.drop_length] at hix;refine gGr ?_;exact ret0 rfl (congrArg (V.int .i64) (by rw [hix];rfl)) rfl
theorem find_spec (l:List Table) (q:Int):Spec Tryz.prog 120 [.sl (tblRows l) false,.int .i64 q] [] (.int .i64 (ixFrom (idB q) l 0)) []:=by
 have sp:=indexTab_spec q l;refine gEn env Tryz.func120 fun Γ hN hK hML=>?_;refine gA ?_;(refine gE env hN (by kernel_rfl) ?_;conv=>whnf);refine gGs ?_;refine gA ?_;refine W.leG (mp:=[]) (bo:=[3]) (st':=⟨[(0,.sl (tblRows l) false),(3,.ro [.int .i64 q] 0)],[],[]⟩)
  (LeG.mk' rfl rfl rfl ⟨⟨_,.refl _,rfl⟩,⟨_,.bp 3 0 1 [.int .i64 q] none rfl rfl (by simp) (.inr rfl),rfl⟩,trivial⟩ .nil rfl rfl (by rw [hK];rfl)) ?_
 exact gR
theorem ixFrom_find {α:Type}(p:α→Bool):∀ (l:List α) (k:Nat),(∃ (i:Nat) (h:i<l.length),ixFrom p l k=(k+i:Nat)∧l.find? p=some l[i])∨(ixFrom p l k=-1∧l.find? p=none)
 | [],k=>.inr ⟨rfl,rfl⟩
 | x::l,k=>by
  by_cases h:p x=true
  ·exact .inl ⟨0,by simp,by simp [ixFrom,h],by simp [h]⟩
  ·rcases ixFrom_find p l (k+1) with ⟨i,hi,h1,h2⟩ | ⟨h1,h2⟩
   ·refine .inl ⟨i+1,by simpa using hi,?_,?_⟩
    ·simp only [ixFrom,h,h1];simp;omega
    ·simp [h,h2]
   ·exact .inr ⟨by simp only [ixFrom,h,h1];simp,by simp [h,h2]⟩
theorem find_ix (l:List Table) (q:Int):(∃ (i:Nat) (h:i<l.length),ixFrom (idB q) l 0=(i:Nat)∧findT l q=some l[i])∨(ixFrom (idB q) l 0=-1∧findT l q=none):=by
 rcases ixFrom_find (idB q) l 0 with ⟨i,hi,h1,h2⟩ | ⟨h1,h2⟩
 ·exact .inl ⟨i,hi,by rw [h1];simp,h2⟩
 ·exact .inr ⟨h1,h2⟩
theorem column_copy (c:Column) (hc:c.cells.length≤4294967296):Spec Tryz.prog 121 [.agg c.row] [] (.agg c.row) []:=by
 have sp:=cloneCells (cellRows c.cells) (cellRows_sz _) (by rw [cellRows_len];exact hc);refine gEn env Tryz.func121 fun Γ hN hK hML=>?_;exact gR
theorem pick_spec (t:Table) (k:Nat) (hk:k<t.cols.length) (hc:(t.cols[k]).cells.length≤4294967296):Spec Tryz.prog 181 [.int .i64 k,.ro t.row 0] [] (.agg (t.cols[k]).row) []:=by
 have sp:=column_copy t.cols[k] hc;have hx:=colRows_get hk;have hl:=colRows_len t.cols;generalize t.cols[k]=c at *;refine gEn env Tryz.func181 fun Γ hN hK hML=>?_;exact gR
theorem colRows_snoc (a:List Column) (c:Column):colRows (a++[c])=colRows a++[c.row]:=by simp [colRows]
set_option maxHeartbeats 4000000 in
theorem with_spec (t:Table) (hn:t.cols.length≤4294967295) (hc:∀ c∈t.cols,c.cells.length≤4294967296):Spec Tryz.prog 180 [.agg t.row,.int .i64 t.cols.length,.fn 181 [.ro t.row 0]] [] (.agg t.row) []:=by
 refine gEn env Tryz.func180 fun Γ hN hK hML=>?_;refine gGo ?_;refine W.ownCell 7 0 2 90 2 rfl rfl rfl rfl rfl ?_;refine W.loopG (fun m st=>∃ k:Nat,k≤t.cols.length∧m=t.cols.length-k∧st=⟨[(2,.fn 181 [.ro t.row 0]),(6,.bp 6 0),(7,.bp 7 0),(14,.int .i64 t.cols.length),(15,.int .i64 k)],[(6,[.rows 3 [[.int .i64 0,.str [],.nils]] none]),(7,[.rows 3 [[.int .i64 t.id,.str t.name,.osl 90 0 0 (colRows (t.cols.take k)).length (colRows (t.cols.take k)).length]] none]),(90,[.rows 2 (colRows (t.cols.take k)) (some [])])],[6,7,90]⟩)
  t.cols.length _ ⟨0,by omega,by omega,rfl⟩ gX ?_
 rintro m st ⟨k,hk,rfl,rfl⟩;have hcl:=colRows_len (t.cols.take k);rw [List.length_take] at hcl;refine gT (fun hb=>?_) fun hb=>?_
 ·have hlt:k<t.cols.length:=by omega
  have sp:=pick_spec t k hlt (hc _ (List.getElem_mem hlt));have hsn:t.cols.take (k+1)=t.cols.take k++[t.cols[k]]:=by rw [List.take_succ_eq_append_getElem hlt]
  generalize t.cols[k]=c at *;refine g ?_;refine ⟨⟨rowsSz_cons rfl rowsSz_nil,rfl⟩,fitsN (n:=(colRows (t.cols.take k)).length+1) (b:=40) (by omega) (by omega),.inl ⟨rfl,rfl,?_⟩⟩;(conv=>whnf);refine gGo ?_;refine ⟨_,_,?_,⟨k+1,by omega,rfl,rfl⟩,[(6,6),(7,7),(90,90)],[],[],LeG.mq (.ci 6 (.cons 7 rfl rfl (.refl _) ?_ (.cons 90 rfl rfl (.refl _) ?_ .nil)))⟩
  ·omega
  ·rw [hsn,colRows_snoc,List.length_append];rfl
  ·rw [hsn,colRows_snoc];rfl
 ·have hke:k=t.cols.length:=by omega
  rw [hke,List.take_length];refine W.leG (mp:=[(6,6),(7,7)]) (bo:=[90]) (st':=⟨[(6,.bp 6 0),(7,.bp 7 0),(16,.bool false)],[(6,[.rows 3 [[.int .i64 0,.str [],.nils]] none]),(7,[.rows 3 [t.row] none])],[6,7]⟩)
   (LeG.mq (.ci 6 (.cons 7 (b1:=.rows 3 [t.row] none) rfl rfl (.rows _ _ _ (by repeat' (first | exact trivial | exact ⟨Lent.refl _,rfl⟩ | exact ⟨Lent.norm _,rfl⟩ | exact ⟨Lent.whole rfl rfl (by first | rfl | exact List.length_append.symm | exact hlenR | simp) rfl (by first | exact .inl rfl | exact .inr rfl),rfl⟩ | apply And.intro))) rfl .nil))) ?_
  exact gR
def SmallT (t:Table):Prop:=t.cols.length≤4294967295∧∀ c∈t.cols,c.cells.length≤4294967296
set_option maxHeartbeats 4000000 in
theorem findC_spec (l:List Table) (q:Int) (hs:∀ t∈l,SmallT t):Spec Tryz.prog 137 [.sl (tblRows l) false,.int .i64 q] [] (.tup [.agg ((findT l q).getD Table.zero).row,.bool (findT l q).isSome]) []:=by
 have sp:=find_spec l q;have hl:=tblRows_len l;refine gEn env Tryz.func137 fun Γ hN hK hML=>?_;refine g ?_;rcases find_ix l q with ⟨i,hi,h1,h2⟩ | ⟨h1,h2⟩
 ·rw [h1,h2];have hx:=tblRows_get hi;have hst:=hs _ (List.getElem_mem hi);generalize l[i]=t at *;have sp2:=with_spec t hst.1 hst.2;have hcl:=colRows_len t.cols;refine gGo ?_;refine rowAt_of (by simpa using hx) ?_;(conv=>whnf);refine gGs ?_;refine gA ?_;refine W.leG (mp:=[(4,4)]) (bo:=[7]) (st':=⟨[(4,.bp 4 0),(7,.ro t.row 0)],[(4,[.rows 3 [[.int .i64 0,.str [],.nils]] none])],[4]⟩)
   (LeG.mk' rfl rfl rfl ⟨⟨_,.refl _,rfl⟩,⟨_,.bp 7 0 3 t.row none rfl rfl (by simp) (.inr rfl),rfl⟩,trivial⟩ (.ci 4 .nil) rfl rfl (by rw [hK];rfl)) ?_
  rw [←hcl] at sp2;exact gR
 ·rw [h1,h2];exact gR
end Go.Sx.Sp
namespace Go.Proofs
open Go.RowKit Go.Shelf
attribute [local go_sem] Oper.semAt_some
set_option maxRecDepth 100000 in
set_option maxHeartbeats 2000000 in
theorem back_iter (n l Bs Bo b off N cap:Nat) (hN:N≤1000000) (J:Nat→World→Prop)
  (hbox:∀ k W,J k W→W.cell? ⟨Bs,Bo,none⟩=some (.slice (some ⟨b,off,none⟩) N cap))
  (hload:∀ k W i,J k W→i<N→∀ j,j<9→∃ c,W.cell? ⟨b,off+i*9+j,none⟩=some c)
  (hY:∀ k W v,J k W→k<N→YieldAt Fence.wide n Tryz.prog l #[.int .i64 ((N:Int)-1-k),v] W fun e W'=>e=.returned (.bool true)∧J (k+1) W')
  (W:World) (h0:J 0 W):CallsIn Fence.wide (n+1) Tryz.prog 182 #[.func (.yield l) #[] #[],.pointer (some ⟨Bs,Bo,none⟩)] W fun e W'=>(∃ v,e=.returned v)∧J N W':=by
 refine callsIn_of_wp Tryz.func182 rfl trivial ?_ rfl;simp only [Tryz.ntmps182,List.size_toArray,List.length_cons,List.length_nil,Nat.reduceAdd,Nat.reduceSub,Array.replicate_succ,Array.replicate_zero,List.push_toArray,List.append_toArray,List.nil_append,List.cons_append];have hb0:=hbox 0 W h0
 gi_wp2
 gi_loopw [3] (fun i wr=>∃ k:Nat,k≤N∧i=.int .i64 ((N:Int)-1-k)∧J k wr)
  (fun i _=>(intOf i+1).toNat)
 case atStart=>exact ⟨0,Nat.zero_le _,by simp,h0⟩
 case round =>
  obtain ⟨k,hk,rfl,hJ⟩:=hrel;have hbk:=hbox k wr hJ;by_cases hlt:k<N
  ·obtain ⟨i,hi⟩:∃ i:Nat,(N:Int)-1-k=i:=⟨N-1-k,by omega⟩
   have hl:=hload k wr i hJ (by omega);obtain ⟨c0,h0⟩:=hl 0 (by omega);obtain ⟨c1,h1⟩:=hl 1 (by omega);obtain ⟨c2,h2⟩:=hl 2 (by omega);obtain ⟨c3,h3⟩:=hl 3 (by omega);obtain ⟨c4,h4⟩:=hl 4 (by omega);obtain ⟨c5,h5⟩:=hl 5 (by omega);obtain ⟨c6,h6⟩:=hl 6 (by omega);obtain ⟨c7,h7⟩:=hl 7 (by omega);obtain ⟨c8,h8⟩:=hl 8 (by omega);rw [Nat.add_zero] at h0;obtain ⟨fn,tmps,assign,body,hy,hR⟩:=hY k wr (.agg #[c0,c1,c2,c3,c4,c5,c6,c7,c8]) hJ hlt;rw [hi] at hy ⊢
   gi_wp2
   refine hR.mono ?_;rintro e W3 ⟨rfl,hJ3⟩
   gi_wp2
   go_roundw
   case rel=>exact ⟨k+1,hlt,(by congr 1;omega),hJ3⟩
   case measure=>simp [intOf]
  ·obtain rfl:k=N:=by omega
   gi_wp2
   go_end0
   exact ⟨⟨_,rfl⟩,hJ⟩
end Go.Proofs
namespace Go.Proofs
open Go.RowKit Go.Shelf
set_option maxRecDepth 100000 in
set_option maxHeartbeats 2000000 in
theorem range_back {g:Operand}{p0 p1:Tmp}{assign body:Code}{Q:Exit→Act→World→Prop}{a:Act}{w:World}{Bs Bo b off N cap:Nat}(hN:N≤1000000)
  (hg:a.eval g=.func (.func 182) #[] #[.pointer (some ⟨Bs,Bo,none⟩)]) (I:Nat→World→Prop)
  (stab:∀ k W W',I k W→W.heap.size≤W'.heap.size→(∀ c,c<W.heap.size→c≠w.heap.size→c≠w.heap.size+1→W'.heap[c]?=W.heap[c]?)→W'.os=W.os→W'.tape=W.tape→W'.output=W.output→W'.shape? w.heap.size=none→W'.shape? (w.heap.size+1)=none→I k W')
  (hbox:∀ k W,I k W→W.cell? ⟨Bs,Bo,none⟩=some (.slice (some ⟨b,off,none⟩) N cap))
  (hload:∀ k W i,I k W→i<N→∀ j,j<9→∃ c,W.cell? ⟨b,off+i*9+j,none⟩=some c)
  (h0:I 0 w) (a₁:Nat→Value→Act)
  (hassign:∀ (l k:Nat) (v:Value) (W:World) (K:Act→World→Prop),K (a₁ k v) W →
   assign.wpIn (Fence.wide.inRound l) 3 Tryz.prog (Exit.then K (fun _ _ _=>False)) { tmps:=((#[p0,p1]:Array Tmp).zip #[.int .i64 ((N:Int)-1-k),v]).foldl (fun t (p,v)=>t.setIfInBounds p v) a.tmps,defers:=[] } W)
  (hbody:∀ (l k:Nat) (v:Value) (W:World),k<N→I k W→w.heap.size+1<W.heap.size →
   body.wpIn (Fence.wide.inRound l) 3 Tryz.prog (fun e _ W'=>e=.normal∧W'.heap[w.heap.size]?=W.heap[w.heap.size]?∧W'.heap[w.heap.size+1]?=W.heap[w.heap.size+1]?∧I (k+1) W') (a₁ k v) W)
  (hdone:∀ W,I N W→W.heap[w.heap.size]?=some (.deferred (some []))→Q .normal { a with defers:={ target:=.collected w.heap.size,args:=#[] }::a.defers } W) :
  (Code.rangeFunc g #[p0,p1] assign body).wpIn Fence.wide 5 Tryz.prog Q a w:=by
 refine wpIn_rangeFunc ?_;intro fn hfn;rw [show Fence.wide.round=none from rfl];obtain ⟨rec,hrec⟩:∃ rec:LoopState→Option Code→Loop,rec=fun st pe=>{ state:=st,pending:=pe,fn,tmps:=a.tmps,params:=#[p0,p1],assign,body,defers:=w.heap.size }:=⟨_,rfl⟩
 obtain ⟨W1,hW1⟩:∃ W1,(w.alloc (.deferred (some []))).alloc (.loop (rec .ready none))=W1:=⟨_,rfl⟩
 have hL1:W1.heap[w.heap.size+1]?=some (.loop (rec .ready none)):=by
  rw [←hW1];have:=World.alloc_heap_new (w.alloc (.deferred (some []))) (.loop (rec .ready none));rwa [World.size_alloc] at this
 have hK1:W1.heap[w.heap.size]?=some (.deferred (some [])):=by
  rw [←hW1];exact (Below.heap_alloc _ _ _ (by simp)).trans (World.alloc_heap_new w _)
 have hI1:I 0 W1:=by
  rw [←hW1];refine stab 0 w _ h0 (by simp;omega) (fun c hc _ _=>?_) rfl rfl rfl (by rw [hW1];simp [World.shape?,hK1]) (by rw [hW1];simp [World.shape?,hL1]);exact (Below.heap_alloc _ _ _ (by simp;omega)).trans (Below.heap_alloc _ _ _ hc)
 have put:∀ (k:Nat) (W:World) (o:Loop),I k W→w.heap.size+1<W.heap.size→W.heap[w.heap.size]?=some (.deferred (some []))→I k (W.putObj (w.heap.size+1) (.loop o)):=fun k W o hi hlt hD =>
  stab k W _ hi (by simp [World.putObj]) (fun c hc _ h2=>World.putObj_heap_other h2) rfl rfl rfl (by
   have:(W.putObj (w.heap.size+1) (.loop o)).heap[w.heap.size]?=some (.deferred (some [])):=(World.putObj_heap_other (by omega)).trans hD
   simp [World.shape?,this]) (by
   have:(W.putObj (w.heap.size+1) (.loop o)).heap[w.heap.size+1]?=some (.loop o):=World.putObj_heap_same hlt
   simp [World.shape?,this])
 refine ⟨w.heap.size+1,[{ target:=.collected w.heap.size,args:=#[] }],W1,{ target:=.fn (.func 182) #[.pointer (some ⟨Bs,Bo,none⟩)],args:=#[.func (.yield (w.heap.size+1)) #[] #[]] },W1,182,
  #[.func (.yield (w.heap.size+1)) #[] #[]]++#[.pointer (some ⟨Bs,Bo,none⟩)],W1,?_,?_,?_,?_,fun _=>by omega,?_⟩
 ·rw [←hW1,hrec];exact run_enterLoop_outer _ _ _ _ _
 ·simp only [resolve,hg];simp [go_sem]
 ·intro f' hf';trivial
 ·simp [invoke,go_sem]
 ·refine (back_iter 3 (w.heap.size+1) Bs Bo b off N cap hN (fun k W=>I k W∧W.heap[w.heap.size+1]?=some (.loop (rec .ready none))∧W.heap[w.heap.size]?=some (.deferred (some [])))
   (fun k W h=>hbox k W h.1) (fun k W i h=>hload k W i h.1) ?_ W1 ⟨hI1,hL1,hK1⟩).mono ?_
  ·rintro k W v ⟨hi,hl,hk⟩ hlt';have hlt:w.heap.size+1<W.heap.size:=(Array.getElem?_eq_some_iff.1 hl).1;have hy:=run_yield (P:=Tryz.prog) (args:=#[.int .i64 ((N:Int)-1-k),v]) hl (by rw [hrec];rfl);rw [hrec] at hy;refine ⟨fn,_,assign,body,hy,roundIn_of_wpIn trivial (hassign _ k v W _ ⟨_,run_beginRound hl (by rw [hrec]),?_⟩)⟩;have hl2:(W.putObj (w.heap.size+1) (.loop { rec .ready none with state:=.busy })).heap[w.heap.size+1]?=some (.loop { rec .ready none with state:=.busy }):=World.putObj_heap_same hlt;have hk2:(W.putObj (w.heap.size+1) (.loop { rec .ready none with state:=.busy })).heap[w.heap.size]?=some (.deferred (some [])):=(World.putObj_heap_other (by omega)).trans hk;refine wpIn_mono (hbody _ k v _ hlt' (put k W _ hi hlt hk) (by simp [World.putObj];exact hlt)) ?_;rintro e a3 W3 ⟨rfl,hD3,hL3,hi3⟩;have hl3:=hL3.trans hl2;have hlt3:w.heap.size+1<W3.heap.size:=(Array.getElem?_eq_some_iff.1 hl3).1;have hend:=run_endRound (P:=Tryz.prog) none hl3;rw [hrec] at hend;refine ⟨_,_,hend,rfl,put _ _ _ hi3 hlt3 (hD3.trans hk2),?_,(World.putObj_heap_other (by omega)).trans (hD3.trans hk2)⟩;rw [World.putObj_heap_same hlt3,hrec];rfl
  ·rintro e W2 ⟨⟨v,rfl⟩,hi,hl,hk⟩;have hlt:w.heap.size+1<W2.heap.size:=(Array.getElem?_eq_some_iff.1 hl).1;have hend:=run_endLoop (P:=Tryz.prog) hl (by rw [hrec];simp);rw [hrec] at hend;exact ⟨none,_,hend,hdone _ (put _ _ _ hi hlt hk) ((World.putObj_heap_other (by omega)).trans hk)⟩
end Go.Proofs
namespace Go.Sx.Sp
open Go Go.Sx Go.Proofs
attribute [local irreducible] GoodW
structure Stp where
 ft:Int
 fc:Int
 tt:Int
 tc:Int
 deriving DecidableEq
structure Pth where
 start:Int
 steps:List Stp
 deriving DecidableEq
def Stp.row (s:Stp):List V:=[.int .i64 s.ft,.int .i64 s.fc,.int .i64 s.tt,.int .i64 s.tc]
def stpRows (l:List Stp):List (List V):=l.map Stp.row
def Pth.row (p:Pth):List V:=[.int .i64 p.start,.sl (stpRows p.steps) false]
theorem stpRows_len (l:List Stp):(stpRows l).length=l.length:=by simp [stpRows]
theorem stpRows_get {l:List Stp}{i:Nat}(h:i<l.length):(stpRows l)[i]?=some l[i].row:=by simp [stpRows,h]
def ixI (t:Int):List Int→Option Nat
 | []=>none
 | s::l=>if t=s then some 0 else (ixI t l).map (· + 1)
def atE:Nat→List Int→List (Nat×V×V)
 | _,[]=>[]
 | k,t::l=>(k,.int .i64 t,.int .i64 (k:Int))::atE (k+1) l
theorem atE_at (s:Int):∀ (T:List Int) (k:Nat),mapAt (.int .i64 s) (atE k T)=some ((ixI s T).map fun i=>(i,k+i,.int .i64 ((k+i:Nat):Int)))
 | [],k=>rfl
 | u::T,k=>by
  by_cases h:s=u
  ·subst h;simp [atE,mapAt,eqKey,ixI]
  ·have:=atE_at s T (k+1);simp only [atE,mapAt,eqKey,h,decide_false,this,ixI,if_false];cases ixI s T with
   | none=>simp
   | some i =>
    simp only [Option.map_some];rw [show k+1+i=k+(i+1) by omega];simp
theorem atE_snoc (s:Int):∀ (T:List Int) (k:Nat),atE k (T++[s])=atE k T++[(k+T.length,.int .i64 s,.int .i64 ((k+T.length:Nat):Int))]
 | [],k=>rfl
 | p::T,k=>by
  simp only [List.cons_append,atE,atE_snoc s T (k+1),List.length_cons];rw [show k+1+T.length=k+(T.length+1) by omega]
theorem ixI_none {t:Int}:∀ {l:List Int},ixI t l=none↔t∉l
 | []=>by simp [ixI]
 | s::l=>by
  by_cases h:t=s
  ·simp [ixI,h]
  ·simp [ixI,h,ixI_none (l:=l)]
theorem ixI_lt {t:Int}:∀ {l:List Int}{i:Nat},ixI t l=some i→i<l.length
 | [],i,h=>by cases h
 | s::l,i,h=>by
  by_cases e:t=s
  ·simp only [ixI,e,if_true,Option.some.injEq] at h;subst h;simp
  ·simp only [ixI,e,if_false,Option.map_eq_some_iff] at h;obtain ⟨j,hj,rfl⟩:=h;have:=ixI_lt hj;simp;omega
def befT (p:Pth) (j:Nat):List Int:=p.start::(p.steps.take j).map Stp.tt
theorem befT_len (p:Pth) {j:Nat}(h:j≤p.steps.length):(befT p j).length=j+1:=by simp [befT];omega
theorem befT_snoc (p:Pth) {j:Nat}(h:j<p.steps.length):befT p (j+1)=befT p j++[p.steps[j].tt]:=by
 unfold befT;rw [List.take_succ_eq_append_getElem h,List.map_append];rfl
def tabOf (l:List Table) (n:Int):Table:=(findT l n).getD Table.zero
def placeI (T:List Int) (t:Int):Nat:=(ixI t T).getD 0
def addKid (R:List Nod) (k:Nat) (j:Nat):List Nod:=R.modify k fun n=>{ n with kids:=n.kids++[j] }
def nodesN (l:List Table) (p:Pth):Nat→List Nod
 | 0=>[⟨tabOf l p.start,0,0,0,[],none⟩]
 | j+1=>match p.steps[j]? with
  | none=>nodesN l p j
  | some s=>addKid (nodesN l p j++[⟨tabOf l s.tt,placeI (befT p j) s.ft,s.fc.toNat,s.tc.toNat,[],none⟩]) (placeI (befT p j) s.ft) (j+1)
theorem nodesN_len (l:List Table) (p:Pth):∀ j,j≤p.steps.length→(nodesN l p j).length=j+1
 | 0,_=>rfl
 | j+1,h=>by
  have h1:=nodesN_len l p j (by omega);have h2:p.steps[j]?=some p.steps[j]:=List.getElem?_eq_getElem (by omega);simp only [nodesN,h2,addKid,List.length_modify,List.length_append,List.length_singleton,h1]
def nodW (F:Nat) (k:Nat) (n:Nod):List V:=n.rowW (.osl F k 0 n.kids.length n.kids.length) .nils .nilm
def nodWs (F:Nat) (R:List Nod):List (List V):=R.mapIdx (nodW F)
theorem nodWs_len (F:Nat) (R:List Nod):(nodWs F R).length=R.length:=by simp [nodWs]
theorem nodWs_get {F:Nat}{R:List Nod}{i:Nat}(h:i<R.length):(nodWs F R)[i]?=some (nodW F i R[i]):=by simp [nodWs,h]
theorem nodWs_snoc (F:Nat) (R:List Nod) (n:Nod):nodWs F (R++[n])=nodWs F R++[nodW F R.length n]:=by simp [nodWs,List.mapIdx_concat]
theorem nodWs_kid {F:Nat}{R:List Nod}{k j:Nat}(h:k<R.length):(nodWs F R).set k (nodW F k { R[k] with kids:=R[k].kids++[j] })=nodWs F (addKid R k j):=by
 refine List.ext_getElem? fun i=>?_;rw [List.getElem?_set];by_cases e:k=i
 ·subst e;simp [nodWs,addKid,h,List.getElem_modify]
 ·simp only [nodWs,addKid,if_neg e,List.getElem?_mapIdx,List.getElem?_modify];simp [e]
def kidF (R:List Nod) (i:Nat):Blk:=.rows 1 (natRows (match R[i]? with | some n=>n.kids | none=>[])) (some [])
theorem rowW_cell {n:Nod}{k c s:V}{j:Nat}{v:V}(h:(n.rowW k c s)[j]?=some v):(j=6∧v=k)∨(j=7∧v=c)∨(j=8∧v=s)∨(j<6∧v.sites=[]∧v.one=true∧∀ k' c' s',(n.rowW k' c' s')[j]?=some v):=by
 match j,h with
 | 0,h=>cases h;exact .inr (.inr (.inr ⟨by omega,rfl,rfl,fun _ _ _=>rfl⟩))
 | 1,h=>cases h;exact .inr (.inr (.inr ⟨by omega,rfl,rfl,fun _ _ _=>rfl⟩))
 | 2,h=>cases h;exact .inr (.inr (.inr ⟨by omega,rfl,rfl,fun _ _ _=>rfl⟩))
 | 3,h=>cases h;exact .inr (.inr (.inr ⟨by omega,rfl,rfl,fun _ _ _=>rfl⟩))
 | 4,h=>cases h;exact .inr (.inr (.inr ⟨by omega,rfl,rfl,fun _ _ _=>rfl⟩))
 | 5,h=>cases h;exact .inr (.inr (.inr ⟨by omega,rfl,rfl,fun _ _ _=>rfl⟩))
 | 6,h=>cases h;exact .inl ⟨rfl,rfl⟩
 | 7,h=>cases h;exact .inr (.inl ⟨rfl,rfl⟩)
 | 8,h=>cases h;exact .inr (.inr (.inl ⟨rfl,rfl⟩))
 | j+9,h=>cases h
theorem nodW_sites {F k:Nat}{n:Nod}{j:Nat}{v:V}(h:(nodW F k n)[j]?=some v):∀ s∈v.sites,s∈[F]:=by
 rcases rowW_cell h with ⟨rfl,rfl⟩ | ⟨rfl,rfl⟩ | ⟨rfl,rfl⟩ | ⟨_,h0,_⟩
 ·intro s hs;exact hs
 ·intro s hs;cases hs
 ·intro s hs;cases hs
 ·intro s hs;rw [h0] at hs;cases hs
theorem nodWs_recell {F:Nat}{H:Nat→List Blk}{R:List Nod}{n:Nod}(hk:n.kids=[]) {ks:Option (List Nat)}(hF:(H F)[R.length]?=some (.rows 1 [] ks)) :
  ∀ (i:Nat) r1,(nodWs F (R++[n]))[i]?=some r1→∃ r,(nodWs F R++[n.rowW .nils .nils .nilm])[i]?=some r∧r.length=r1.length∧∀ (j:Nat) v1,r1[j]?=some v1→∃ v,r[j]?=some v∧NilAs H v v1∧∀ l,some [F]=some l→∀ s∈v1.sites,s∈l:=by
 intro i r1 hi;rw [nodWs_snoc,List.getElem?_append] at hi;rw [List.getElem?_append];split at hi
 ·rename_i hlt;refine ⟨r1,by rw [if_pos hlt];exact hi,rfl,fun j v1 hj=>⟨v1,hj,.same v1,fun l hl=>?_⟩⟩;cases hl;rw [nodWs_len] at hlt;rw [nodWs_get hlt] at hi;cases hi;exact nodW_sites hj
 ·rename_i hge;rw [nodWs_len] at hge hi;have h0:i-R.length=0:=by
   have:=(List.getElem?_eq_some_iff.1 hi).1;simp at this;omega
  rw [h0] at hi;cases hi;refine ⟨n.rowW .nils .nils .nilm,by rw [if_neg (by rw [nodWs_len];exact hge),nodWs_len,h0];rfl,rfl,fun j v1 hj=>?_⟩;have hs:=nodW_sites hj;rcases rowW_cell hj with ⟨rfl,rfl⟩ | ⟨rfl,rfl⟩ | ⟨rfl,rfl⟩ | ⟨_,h0,_,h1⟩
  ·refine ⟨.nils,rfl,?_,fun l hl=>by cases hl;exact hs⟩;rw [hk];exact .nil .nils F R.length 1 ks rfl hF
  ·exact ⟨.nils,rfl,.same _,fun l hl=>by cases hl;exact hs⟩
  ·exact ⟨.nilm,rfl,.same _,fun l hl=>by cases hl;exact hs⟩
  ·exact ⟨v1,h1 _ _ _,.same _,fun l hl=>by cases hl;exact hs⟩
theorem kidF_get {R:List Nod}{k:Nat}(h:k<R.length):kidF R k=.rows 1 (natRows R[k].kids) (some []):=by simp [kidF,h]
theorem kidF_out {R:List Nod}{k:Nat}(h:R.length≤k):kidF R k=.rows 1 [] (some []):=by simp [kidF,List.getElem?_eq_none h,natRows]
theorem kidF_snoc {R:List Nod}{n:Nod}(hn:n.kids=[]) (i:Nat):kidF (R++[n]) i=kidF R i:=by
 rcases Nat.lt_trichotomy i R.length with h | h | h
 ·unfold kidF;rw [List.getElem?_append_left h]
 ·subst h;rw [kidF_out (Nat.le_refl _)];simp [kidF,hn,natRows]
 ·rw [kidF_out (R:=R) (by omega),kidF_out (R:=R++[n]) (by simp;omega)]
theorem kidF_add {R:List Nod}{k j:Nat}(h:k<R.length) (i:Nat):kidF (addKid R k j) i=if i=k then .rows 1 (natRows (R[k].kids++[j])) (some []) else kidF R i:=by
 by_cases e:i=k
 ·subst e;rw [if_pos rfl];unfold kidF addKid;rw [List.getElem?_modify];simp [h]
 ·rw [if_neg e];unfold kidF addKid;rw [List.getElem?_modify];simp [Ne.symm e]
theorem kidF_fam (R:List Nod) (n:Nat):∀ b∈famL n (kidF R),b.famB=true:=famL_famB fun i _=>rfl
theorem natRows_snoc (l:List Nat) (j:Nat):natRows (l++[j])=natRows l++[[.int .i64 ((j:Nat):Int)]]:=by simp [natRows]
theorem nodWs_freeze {F N:Nat}{H:Nat→List Blk}{bo:List Nat}{R:List Nod}(hF:memB F bo=true) (hH:H F=famL N (kidF R)) (hN:R.length≤N) (hd:∀ n∈R,n.done=none) :
  ∀ (i:Nat) r1,(nodRows R)[i]?=some r1→∃ r,(nodWs F R)[i]?=some r∧r.length=r1.length∧∀ (j:Nat) v1,r1[j]?=some v1→∃ v,r[j]?=some v∧Lent H bo v v1∧v1.one=true∧v1.sites=[]:=by
 intro i r1 hi;have hlt:i<R.length:=by
  have:=(List.getElem?_eq_some_iff.1 hi).1
  rwa [nodRows_len] at this
 rw [nodRows_get hlt] at hi;cases hi;refine ⟨_,nodWs_get hlt,rfl,fun j v1 hj=>?_⟩;have hp:=R[i].pure v1 (List.mem_of_getElem? hj);have hdn:=hd _ (List.getElem_mem hlt);rcases rowW_cell hj with ⟨rfl,rfl⟩ | ⟨rfl,rfl⟩ | ⟨rfl,rfl⟩ | ⟨_,_,_,h1⟩
 ·refine ⟨_,rfl,?_,hp⟩;have hnl:=natRows_len R[i].kids;have:=Lent.oslF (H:=H) (bo:=bo) F i 0 R[i].kids.length R[i].kids.length 1 (natRows R[i].kids) (some []) hF (by rw [hH,famL_get (by omega),kidF_get hlt]) (by omega) (.inl rfl);rw [List.drop_zero,List.take_of_length_le (by omega)] at this;exact this
 ·refine ⟨.nils,rfl,?_,hp⟩;unfold Nod.cv;rw [hdn];exact .refl _
 ·refine ⟨.nilm,rfl,?_,hp⟩;unfold Nod.sv;rw [hdn];exact .refl _
 ·exact ⟨v1,h1 _ _ _,.refl _,hp⟩
theorem nodesN_done (l:List Table) (p:Pth):∀ j,∀ n∈nodesN l p j,n.done=none
 | 0,n,h=>by simp [nodesN] at h;subst h;rfl
 | j+1,n,h=>by
  have ih:=nodesN_done l p j;unfold nodesN at h;split at h
  ·exact ih n h
  ·unfold addKid at h;obtain ⟨i,hi,rfl⟩:=List.getElem_of_mem h;rw [List.getElem_modify];have key:∀ x:Nod,x.done=none→∀ m∈nodesN l p j++[x],Nod.done m=none:=fun x hx m hm=>by
    rcases List.mem_append.1 hm with h1 | h1
    ·exact ih m h1
    ·simp at h1;subst h1;exact hx
   rw [List.length_modify] at hi;have h0:=key _ rfl _ (List.getElem_mem hi);split
   ·exact h0
   ·exact h0
end Go.Sx.Sp
namespace Go.Sx.Sp
open Go Go.Sx Go.Proofs
attribute [local irreducible] GoodW famL
theorem backward_spec (n:Nat) (rows:List (List V)) (hn:n=rows.length):Spec Tryz.prog 138 [.osl 0 0 0 n n] [(0,.rows 9 rows (some []))] (.fn 182 [.bp 1 0]) [(0,.rows 9 rows (some [])),(1,.rows 1 [[.osl 0 0 0 n n]] none)]:=by
 refine gEn env Tryz.func138 fun Γ hN hK hML=>?_;refine gGo ?_;(refine gM ?_;conv=>whnf);exact retH rfl (.refl _) rfl rfl rfl ⟨rfl,rfl,rfl,rfl,trivial⟩
theorem oslRows_of {h:Nat→List Blk}{s i sz:Nat}{rows:List (List V)}{ks:Option (List Nat)}(hh:(h s)[i]?=some (.rows sz rows ks)):oslRows h s i=some (sz,rows,ks):=by unfold oslRows;rw [hh]
theorem nodesN_kids (l:List Table) (p:Pth):∀ j,∀ n∈nodesN l p j,n.kids.length≤j∧∀ k∈n.kids,k≤j
 | 0,n,h=>by simp [nodesN] at h;subst h;simp
 | j+1,n,h=>by
  have ih:=nodesN_kids l p j;have weak:∀ n:Nod,(n.kids.length≤j∧∀ k∈n.kids,k≤j)→n.kids.length≤j+1∧∀ k∈n.kids,k≤j+1:=fun n ⟨h1,h2⟩=>⟨by omega,fun k hk=>by have:=h2 k hk;omega⟩
  unfold nodesN at h;split at h
  ·exact weak n (ih n h)
  ·unfold addKid at h;obtain ⟨i,hi,rfl⟩:=List.getElem_of_mem h;rw [List.getElem_modify];have key:∀ x:Nod,x.kids=[]→∀ m∈nodesN l p j++[x],(Nod.kids m).length≤j∧∀ k∈m.kids,k≤j:=fun x hx m hm=>by
    rcases List.mem_append.1 hm with h1 | h1
    ·exact ih m h1
    ·simp at h1;subst h1;rw [hx];simp
   rw [List.length_modify] at hi;have h0:=key _ rfl _ (List.getElem_mem hi);split
   ·refine ⟨?_,fun k hk=>?_⟩
    ·simp only [List.length_append,List.length_singleton];omega
    ·rcases List.mem_append.1 hk with h1 | h1
     ·have:=h0.2 k h1;omega
     ·simp at h1;omega
   ·exact weak _ h0
theorem _root_.Go.Sx.Ref.reks [Glob] {Γ:Ctx}{st:St}(k:Nat) {sz:Nat}{rows rows1:List (List V)}{ks:Option (List Nat)}(l:List Nat) (hk:lookH st.heap k=[.rows sz rows ks]) (he:rows=rows1)
  (hs:∀ (i:Nat) r (j:Nat) v,rows1[i]?=some r→r[j]?=some v→∀ s∈v.sites,s∈l) (hu:∀ q∈l,memB q st.used=true):Ref Γ st ⟨st.env,(k,[.rows sz rows1 (some l)])::st.heap,st.used⟩:=by
 subst he;refine Ref.recell k rows (some l) hk rfl (fun i r hi=>⟨r,hi,rfl,fun j v hj=>⟨v,hj,.same v,fun l' hl=>?_⟩⟩) (fun l' hl=>?_)
 ·cases hl;exact hs i r j v hi hj
 ·cases hl;exact hu
structure PathOK (l:List Table) (p:Pth):Prop where
 small:∀ t∈l,SmallT t
 few:p.steps.length≤4
 new:∀ j (h:j<p.steps.length),p.steps[j].tt∉befT p j
 fc:∀ s∈p.steps,0≤s.fc∧0≤s.tc
theorem placeI_lt {T:List Int}(h:T≠[]) (t:Int):placeI T t<T.length:=by
 unfold placeI;cases hx:ixI t T with
 | none=>simp;exact List.length_pos_iff.2 h
 | some j=>simpa using ixI_lt hx
def codeSnd:Code→Code
 | .seq _ y=>y
 | c=>c
noncomputable def newRest:Code:=match (Tryz.f90).body with
 | some c=>codeSnd (codeSnd (codeSnd (codeSnd (codeSnd (codeSnd c)))))
 | none=>.skip
theorem atE_look (T:List Int) (s:Int):∃ r,mapAt (.int .i64 s) (atE 0 T)=some r∧lookAt (atE 0 T) (.int .i64 0) false r=.int .i64 (placeI T s:Nat):=by
 refine ⟨_,atE_at s T 0,?_⟩;unfold placeI;cases ixI s T with
 | none=>rfl
 | some j=>simp [lookAt,lookRes]
def newSt (l:List Table) (p:Pth):St:=⟨[(5,.bp 5 0)],[(5,[.rows 1 [[.bp 16 0]] none]),(16,[.rows 1 [[.osl 90 0 0 (p.steps.length+1) (p.steps.length+1)]] none]),(90,[.rows 9 (nodRows (nodesN l p p.steps.length)) (some [])])],[5,16,90]⟩
set_option maxHeartbeats 16000000 in
theorem new_pre (l:List Table) (p:Pth) (ok:PathOK l p) {R:Exit→Act→World→Prop}{Γ:Ctx}(hN:Γ.N=(Tryz.f90).ntmps) (hK:Γ.K0=[]) (hend:Wr Tryz.prog T Γ newRest R (newSt l p)) {c:Code}(hc:(Tryz.f90).body=some c):Wr Tryz.prog T Γ c R ⟨envFrom 0 [.sl (tblRows l) false,.agg p.row],[],[]⟩:=by
 have hML:maxLen=9223372036854775807:=by unfold maxLen;rfl
 have hsl:=stpRows_len p.steps;have hfew:=ok.few;have sp0:=findC_spec l p.start ok.small;cases hc;refine Wr.seq ?_;(refine gE env hN (by kernel_rfl) ?_;conv=>whnf);refine gGo ?_;refine Wr.seq ?_;(refine gE env hN (by kernel_rfl) ?_;conv=>whnf);refine gGo ?_;refine Wr.seq ?_;(refine gE env hN (by kernel_rfl) ?_;conv=>whnf);refine gGo ?_;refine ⟨none,rfl,?_⟩;(conv=>whnf);refine gGo ?_;refine Wr.seq ?_;(refine gE env hN (by kernel_rfl) ?_;conv=>whnf);refine g ?_;refine Wr.seq ?_;refine W.ownCell 16 0 0 90 9 rfl rfl rfl rfl rfl ?_;(refine gE env hN (by kernel_rfl) ?_;conv=>whnf);refine gGo ?_;refine ⟨⟨rowsSz_cons rfl rowsSz_nil,rfl⟩,fitsN (n:=0+1) (b:=128) (by omega) (by omega),.inl ⟨rfl,rfl,?_⟩⟩;(conv=>whnf);refine gGo ?_;refine Wr.leG (mp:=[(3,3),(5,5),(16,16),(90,90),(17,17)]) (bo:=[]) (st':=⟨[(0,.sl (tblRows l) false),(3,.bp 3 0),(5,.bp 5 0),(6,.omap 17 0)],[(3,[.rows 2 [p.row] none]),(5,[.rows 1 [[.bp 16 0]] none]),(16,[.rows 1 [[.osl 90 0 0 1 1]] none]),(90,[.rows 9 (nodWs 91 []++[Nod.rowW ⟨tabOf l p.start,0,0,0,[],none⟩ .nils .nils .nilm]) (some [])]),(17,[.map (atE 0 (befT p 0)) 1 (some [])])],[3,5,16,90,17]⟩)
  (LeG.mq (.ci 3 (.ci 5 (.ci 16 (.ci 90 (.ci 17 .nil)))))) ?_
 refine Wr.seq ?_;refine W.ref (Ref.trans (Ref.reserve 91 (p.steps.length+1) 1 rfl) (Ref.recell 90 (nodWs 91 [⟨tabOf l p.start,0,0,0,[],none⟩]) (some [91]) rfl rfl (nodWs_recell (R:=[]) rfl (ks:=some []) ?_) ?_)) ?_
 ·show (famL _ _)[0]?=_;rw [famL_get (by omega)]
 ·intro l hl q hq;cases hl;simp at hq;subst hq;rfl
 refine W.leG (mp:=[(3,3),(5,5),(16,16),(90,90),(17,17),(91,91)]) (bo:=[]) (st':=⟨[(0,.sl (tblRows l) false),(3,.bp 3 0),(5,.bp 5 0),(6,.omap 17 0)],[(3,[.rows 2 [p.row] none]),(5,[.rows 1 [[.bp 16 0]] none]),(16,[.rows 1 [[.osl 90 0 0 (0+1) (0+1)]] none]),(90,[.rows 9 (nodWs 91 (nodesN l p 0)) (some [91])]),(17,[.map (atE 0 (befT p 0)) (0+1) (some [])]),(91,famL (p.steps.length+1) (kidF (nodesN l p 0)))],[3,5,16,90,17,91]⟩)
  (LeG.mq (.ci 3 (.ci 5 (.ci 16 (.ci 90 (.ci 17 (.fam 91 rfl ?_ (kidF_fam _ _) .nil))))))) ?_
 ·show famL _ _=famL _ _;exact famL_congr fun i _=>by
   cases i with
   | zero=>rfl
   | succ i=>rfl
 refine gGo ?_;intros;refine W.loopG (fun m st=>∃ j:Nat,j≤p.steps.length∧m=p.steps.length-j∧st=⟨[(0,.sl (tblRows l) false),(3,.bp 3 0),(5,.bp 5 0),(6,.omap 17 0),(40,.sl (stpRows p.steps) false),(41,.int .i64 (stpRows p.steps).length),(42,.int .i64 j)],[(3,[.rows 2 [p.row] none]),(5,[.rows 1 [[.bp 16 0]] none]),(16,[.rows 1 [[.osl 90 0 0 (j+1) (j+1)]] none]),(90,[.rows 9 (nodWs 91 (nodesN l p j)) (some [91])]),(17,[.map (atE 0 (befT p j)) (j+1) (some [])]),(91,famL (p.steps.length+1) (kidF (nodesN l p j)))],[3,5,16,90,17,91]⟩)
  p.steps.length _ ⟨0,by omega,by omega,rfl⟩ ⟨[(3,3),(5,5),(16,16),(90,90),(17,17),(91,91)],[],[],LeG.mq (.ci 3 (.ci 5 (.ci 16 (.ci 90 (.ci 17 (.fam 91 rfl rfl (kidF_fam _ _) .nil))))))⟩ ?_
 rintro m st ⟨j,hj,rfl,rfl⟩;refine gT (fun hb=>?_) fun hb=>?_
 ·have hlt:j<p.steps.length:=by omega
  have hx:=stpRows_get hlt;have hnew:=ok.new j hlt;have hfc:=ok.fc _ (List.getElem_mem hlt);have hbs:=befT_snoc p hlt;have hgs:p.steps[j]?=some p.steps[j]:=List.getElem?_eq_getElem hlt;generalize hsq:p.steps[j]=s at *;obtain ⟨ft,fc,tt,tc⟩:=s;simp only at hnew hfc hbs;obtain ⟨f,rfl⟩:∃ f:Nat,fc=f:=⟨fc.toNat,by omega⟩
  obtain ⟨g,rfl⟩:∃ g:Nat,tc=g:=⟨tc.toNat,by omega⟩
  have hNl:=nodesN_len l p j hj;have hns:nodesN l p (j+1)=addKid (nodesN l p j++[⟨tabOf l tt,placeI (befT p j) ft,f,g,[],none⟩]) (placeI (befT p j) ft) (j+1):=by
   simp only [nodesN,hgs,Int.toNat_natCast]
  have hbl:=befT_len p hj;have hk:=placeI_lt (T:=befT p j) (by simp [befT]) ft;obtain ⟨r0,hr1,hr2⟩:=atE_look (befT p j) ft;have sp1:=findC_spec l tt ok.small;have hkd:=nodesN_kids l p j;generalize nodesN l p j=R0 at *;have hnl:=nodWs_len 91 R0;generalize hkk:placeI (befT p j) ft=k at *;refine gGo ?_;refine rowAt_of (by simpa using hx) ?_;(conv=>whnf);refine gGo ?_;(refine gPC (sp1) ?_;conv=>whnf);refine gGo ?_;refine zok_intro (by kernel_rfl) ?_;(conv=>whnf);refine ⟨r0,hr1,?_⟩;rw [hr2];(conv=>whnf);refine gGo ?_;refine ⟨⟨rowsSz_cons rfl rowsSz_nil,by omega⟩,fitsN (n:=j+1+1) (b:=128) (by omega) (by omega),.inl ⟨rfl,rfl,?_⟩⟩;(conv=>whnf);refine gGs ?_;refine gA ?_;obtain ⟨nw,hnw⟩:∃ nw:Nod,nw=⟨tabOf l tt,(k:Nat),f,g,[],none⟩:=⟨_,rfl⟩
  have hnwk:nw.kids=[]:=by rw [hnw]
  have hns2:nodesN l p (j+1)=addKid (R0++[nw]) k (j+1):=by rw [hns,hnw]
  refine W.leG (mp:=[(3,3),(5,5),(16,16),(90,90),(17,17),(91,91),(10,10)]) (bo:=[]) (st':=⟨[(0,.sl (tblRows l) false),(3,.bp 3 0),(5,.bp 5 0),(6,.omap 17 0),(10,.bp 10 0),(9,.int .i64 j),(13,.int .i64 (k:Nat)),(40,.sl (stpRows p.steps) false),(41,.int .i64 (stpRows p.steps).length),(42,.int .i64 j)],[(3,[.rows 2 [p.row] none]),(5,[.rows 1 [[.bp 16 0]] none]),(16,[.rows 1 [[.osl 90 0 0 (j+1+1) (j+1+1)]] none]),(90,[.rows 9 (nodWs 91 R0++[nw.rowW .nils .nils .nilm]) (some [91])]),(17,[.map (atE 0 (befT p j)) (j+1) (some [])]),(10,[.rows 4 [[.int .i64 ft,.int .i64 f,.int .i64 tt,.int .i64 g]] none]),(91,famL (p.steps.length+1) (kidF R0))],[3,5,16,90,17,91,10]⟩)
   (LeG.mq (.ci 3 (.ci 5 (.ci 16 (.cons 90 rfl rfl (.refl _) (by rw [hnw];rfl) (.ci 17 (.ci 10 (.fam 91 rfl rfl (kidF_fam _ _) .nil)))))))) ?_
  refine W.ref (Ref.recell 90 (nodWs 91 (R0++[nw])) (some [91]) rfl (by rw [nodWs_snoc];simp) (nodWs_recell hnwk (ks:=some []) ?_) ?_) ?_
  ·show (famL _ _)[_]?=_;rw [famL_get (by omega),kidF_out (Nat.le_refl _)]
  ·intro l hl q hq;cases hl;simp at hq;subst hq;rfl
  have hkR:k<(R0++[nw]).length:=by simp;omega
  have hRl:(R0++[nw]).length=j+1+1:=by simp;omega
  have hgk:=nodWs_get (F:=91) hkR;have hfk:(famL (p.steps.length+1) (kidF (R0++[nw])))[k]?=some (.rows 1 (natRows (R0++[nw])[k].kids) (some [])):=by rw [famL_get (by omega),kidF_get hkR]
  have hset:=nodWs_kid (F:=91) (j:=j+1) hkR;have hfam:∀ i,kidF (addKid (R0++[nw]) k (j+1)) i=if i=k then .rows 1 (natRows ((R0++[nw])[k].kids++[j+1])) (some []) else kidF (R0++[nw]) i:=kidF_add hkR
  have hlw:=nodWs_len 91 (R0++[nw]);have hff:famL (p.steps.length+1) (kidF R0)=famL (p.steps.length+1) (kidF (R0++[nw])):=famL_congr fun i _=>(kidF_snoc hnwk i).symm;rw [hff];have hkfew:(R0++[nw])[k].kids.length≤4:=by
   rcases List.mem_append.1 (List.getElem_mem hkR) with h1 | h1
   ·have:=(hkd _ h1).1;omega
   ·simp at h1;rw [h1,hnwk];simp
  generalize (R0++[nw])[k]=nk at *;have hkl:(natRows nk.kids).length=nk.kids.length:=natRows_len _;refine gGo ?_;refine rowAt_of (by simpa using hgk) ?_;(conv=>whnf);refine gGo ?_;generalize hO:oslRows _ 91 k=O;have hO2:O=some (1,natRows nk.kids,some []):=by rw [←hO];exact oslRows_of hfk
  subst hO2;clear hO;(conv=>whnf);refine ⟨⟨rowsSz_cons rfl rowsSz_nil,by omega⟩,fitsN (n:=nk.kids.length+1) (b:=8) (by omega) (by omega),.inl ⟨rfl,rfl,?_⟩⟩;(conv=>whnf);split
  ·rename_i heq;exact absurd (show (famL _ _).length=1 from congrArg List.length heq) (by rw [famL_len];omega)
  rename_i k l0 i0 hnp;clear hnp;(conv=>whnf);refine gGo ?_;refine rowAt_of (by simpa using hgk) ?_;(conv=>whnf);refine gGs ?_;have hnw2:nodW 91 k { nk with kids:=nk.kids++[j+1] }=nk.rowW (.osl 91 k 0 (nk.kids.length+1) (nk.kids.length+1)) .nils .nilm:=by unfold nodW;simp only [List.length_append,List.length_singleton];rfl
  rw [hnw2] at hset;refine W.ref (Ref.reks 90 (rows1:=nodWs 91 (addKid (R0++[nw]) k (j+1))) [91] rfl ?_ (fun i r q v hi hq=>?_) (fun q hq=>?_)) ?_
  ·rw [←hset,show (0+((k:Nat):Int).toNat)=k by simp];rfl
  ·have hlt2:i<(addKid (R0++[nw]) k (j+1)).length:=by
    have:=(List.getElem?_eq_some_iff.1 hi).1
    rwa [nodWs_len] at this
   rw [nodWs_get hlt2] at hi;cases hi;exact nodW_sites hq
  ·simp at hq;subst hq;rfl
  refine gGo ?_;have hm0:mapAt (.int .i64 tt) (atE 0 (befT p j))=some none:=by rw [atE_at,ixI_none.2 hnew];rfl
  refine ⟨none,hm0,?_⟩;(conv=>whnf);refine gGo ?_;refine ⟨_,_,?_,⟨j+1,by omega,rfl,rfl⟩,[(3,3),(5,5),(16,16),(90,90),(17,17),(91,91)],[],[],LeG.mq (.ci 3 (.ci 5 (.ci 16 (.cons 90 rfl rfl (.refl _) ?_ (.cons 17 rfl rfl (.refl _) ?_ (.fam 91 rfl ?_ (kidF_fam _ _) .nil))))))⟩
  ·omega
  ·rw [hns2];rfl
  ·rw [hbs,atE_snoc,hbl];simp;rfl
  ·rw [hns2];show _=(famL _ _).set _ _;rw [famL_set];refine famL_congr fun i _=>?_;rw [hfam];by_cases hik:i=k
   ·rw [if_pos hik,if_pos hik,natRows_snoc];rfl
   ·rw [if_neg hik,if_neg hik]
 ·have hje:j=p.steps.length:=by omega
  subst hje;have hNl:=nodesN_len l p p.steps.length (Nat.le_refl _);have hdn:=nodesN_done l p p.steps.length;refine gGo ?_;refine Wr.leG (mp:=[(5,5),(16,16),(90,90)]) (bo:=[91]) (st':=newSt l p)
   (LeG.mq (.ci 5 (.ci 16 (.cons 90 (b1:=.rows 9 (nodRows (nodesN l p p.steps.length)) (some [])) rfl rfl (.rowsF 9 _ _ _ ?_ (nodWs_freeze (F:=91) (N:=p.steps.length+1) rfl rfl (by omega) hdn)) rfl .nil)))) ?_
  ·rw [nodWs_len,nodRows_len]
  ·exact hend
end Go.Sx.Sp
