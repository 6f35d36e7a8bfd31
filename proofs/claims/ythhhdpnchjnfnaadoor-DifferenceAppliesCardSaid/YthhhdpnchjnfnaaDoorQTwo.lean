/- Contracts of copies, of equal tables, and of keys. -/
import Derived.Test.YthhhdpnchjnfnaaDoorQOne
import Derived.Test.YthhhdpnchjnfnaaDoorSxFour
set_option linter.unusedVariables false
set_option linter.unusedSimpArgs false
namespace Go.Sx.Sp
open Go Go.Sx Go.Proofs
attribute [local irreducible] GoodW
theorem cells_ne {N:NB}{o:Oper}{h:Nat→List Blk}{ρ:Operand→V}{t':Nat}{x y:Operand}(hop:o.op=.binOp .neq 40 x y t') (c d:Cell) (hx:ρ x=.agg c.row) (hy:ρ y=.agg d.row) (hd:dstOK N o.dst=true):GoodW Tryd.prog N o ρ h (.bool (!decide (c=d))) [] []:=by
 have h1:=aggBS_good (P:=Tryd.prog) (N:=N) (h:=h) (ρ:=ρ) (op:=.neq) hop (.inr rfl) Tryd.underlying40 (by kernel_rfl) (by kernel_rfl) (by kernel_rfl) (by kernel_rfl) rfl rfl Tryd.underlying4 Tryd.underlying9 (a:=c.text) (b:=d.text) (n:=c.null) (m:=d.null) hx hy
 have e:decide (c=d)=decide (c.null=d.null∧c.text=d.text):=by
  cases c;cases d;simp
 rw [e]
 exact h1.toW hd
theorem take_snoc {α:Type}{a b:List α}{k:Nat}(h:a.take k=b.take k) (ha:k<a.length) (hb:k<b.length) (he:a[k]=b[k]):a.take (k+1)=b.take (k+1):=by
 rw [List.take_succ_eq_append_getElem ha,List.take_succ_eq_append_getElem hb,h,he]
set_option maxHeartbeats 2000000 in
theorem sameCells_spec (a b:Column):Spec Tryd.prog 33 [.agg a.row,.agg b.row] [] (.bool (decide (a=b))) []:=by
 have hla:=cellRows_len a.cells
 have hlb:=cellRows_len b.cells
 have hE:decide (a=b)=decide (a.name=b.name∧a.cells=b.cells):=by cases a;cases b;simp
 rw [hE]
 refine gEn env Tryd.func33 fun Γ hN hK hML=>?_
 (refine gGo ?_;intros)
 refine boolRes_split (fun hb=>?_) (fun hb=>?_)<;>conv=>whnf
 ·(refine gGr ?_;intros)
  exact ret0 rfl (congrArg V.bool (by rw [decide_eq_false];simp;exact fun h=>absurd h hb)) rfl
 have hname:a.name=b.name:=Decidable.of_not_not hb
 (refine gGo ?_;intros)
 refine boolRes_split (fun hb=>?_) (fun hb=>?_)<;>conv=>whnf
 ·(refine gGr ?_;intros)
  exact ret0 rfl (congrArg V.bool (by rw [decide_eq_false];intro h;have:=congrArg List.length h.2;omega)) rfl
 have hL:a.cells.length=b.cells.length:=by omega
 (refine gGo ?_;intros)
 refine W.loopG (fun n st=>∃ k:Nat,k≤a.cells.length∧a.cells.take k=b.cells.take k∧n=a.cells.length-k∧st=⟨[(2,.bp 2 0),(3,.bp 3 0),(21,.sl (cellRows a.cells) false),(22,.int .i64 (cellRows a.cells).length),(23,.int .i64 k)],[(2,[.rows 2 [a.row] none]),(3,[.rows 2 [b.row] none])],[2,3]⟩)
  a.cells.length _ ⟨0,by omega,by simp,by omega,rfl⟩ ⟨[(2,2),(3,3)],[],[],.mq (.ci 2 (.ci 3 .nil))⟩ ?_
 rintro n st ⟨k,hk,htk,rfl,rfl⟩
 (refine gGo ?_;intros)
 refine boolRes_split (fun hb=>?_) (fun hb=>?_)<;>conv=>whnf
 ·have hlt:k<a.cells.length:=by omega
  have hltb:k<b.cells.length:=by omega
  (refine gGo ?_;intros)
  refine rowAt_of (cellRows_get hlt) ?_
  conv=>whnf
  (refine gGo ?_;intros)
  refine rowAt_of (cellRows_get hltb) ?_
  conv=>whnf
  (refine gGo ?_;intros)
  refine ⟨_,_,_,cells_ne rfl a.cells[k] b.cells[k] rfl rfl (by kernel_rfl),?_⟩
  by_cases hc:a.cells[k]=b.cells[k]
  ·rw [decide_eq_true hc]
   conv=>whnf
   (refine gGo ?_;intros)
   refine ⟨_,_,?_,⟨k+1,by omega,take_snoc htk hlt hltb hc,rfl,rfl⟩,⟨[(2,2),(3,3)],[],[],.mq (.ci 2 (.ci 3 .nil))⟩⟩
   omega
  ·rw [decide_eq_false hc]
   conv=>whnf
   (refine gGr ?_;intros)
   exact ret0 rfl (congrArg V.bool (by
    rw [decide_eq_false]
    rintro ⟨_,h⟩
    exact hc (by simp only [h]))) rfl
 ·have hke:k=a.cells.length:=by omega
  rw [hke,List.take_length,hL,List.take_length] at htk
  (refine gGr ?_;intros)
  exact ret0 rfl (congrArg V.bool (by rw [decide_eq_true];exact ⟨hname,htk⟩)) rfl
set_option maxHeartbeats 2000000 in
theorem same3_spec (a b:Table):Spec Tryd.prog 15 [.agg a.row,.agg b.row] [] (.bool (decide (a=b))) []:=by
 have hla:=colRows_len a.cols
 have hlb:=colRows_len b.cols
 have hE:decide (a=b)=decide (a.id=b.id∧a.name=b.name∧a.cols=b.cols):=by cases a;cases b;simp
 rw [hE]
 refine gEn env Tryd.func15 fun Γ hN hK hML=>?_
 (refine gGo ?_;intros)
 refine boolRes_split (fun hb=>?_) (fun hb=>?_)<;>conv=>whnf
 ·(refine gGr ?_;intros)
  exact ret0 rfl (congrArg V.bool (by rw [decide_eq_false];rintro ⟨h,_⟩;exact hb h)) rfl
 have hid:a.id=b.id:=by omega
 (refine gGo ?_;intros)
 refine boolRes_split (fun hb=>?_) (fun hb=>?_)<;>conv=>whnf
 ·(refine gGr ?_;intros)
  exact ret0 rfl (congrArg V.bool (by rw [decide_eq_false];rintro ⟨_,h,_⟩;exact hb h)) rfl
 have hname:a.name=b.name:=Decidable.of_not_not hb
 (refine gGo ?_;intros)
 refine boolRes_split (fun hb=>?_) (fun hb=>?_)<;>conv=>whnf
 ·(refine gGr ?_;intros)
  exact ret0 rfl (congrArg V.bool (by rw [decide_eq_false];rintro ⟨_,_,h⟩;have:=congrArg List.length h;omega)) rfl
 have hL:a.cols.length=b.cols.length:=by omega
 (refine gGo ?_;intros)
 refine W.loopG (fun n st=>∃ k:Nat,k≤a.cols.length∧a.cols.take k=b.cols.take k∧n=a.cols.length-k∧st=⟨[(2,.bp 2 0),(3,.bp 3 0),(28,.sl (colRows a.cols) false),(29,.int .i64 (colRows a.cols).length),(30,.int .i64 k)],[(2,[.rows 3 [a.row] none]),(3,[.rows 3 [b.row] none])],[2,3]⟩)
  a.cols.length _ ⟨0,by omega,by simp,by omega,rfl⟩ ⟨[(2,2),(3,3)],[],[],.mq (.ci 2 (.ci 3 .nil))⟩ ?_
 rintro n st ⟨k,hk,htk,rfl,rfl⟩
 (refine gGo ?_;intros)
 refine boolRes_split (fun hb=>?_) (fun hb=>?_)<;>conv=>whnf
 ·have hlt:k<a.cols.length:=by omega
  have hltb:k<b.cols.length:=by omega
  have sp:=sameCells_spec a.cols[k] b.cols[k]
  (refine gGo ?_;intros)
  refine rowAt_of (colRows_get hlt) ?_
  conv=>whnf
  (refine gGo ?_;intros)
  refine rowAt_of (colRows_get hltb) ?_
  conv=>whnf
  (refine gGo ?_;intros)
  by_cases hc:a.cols[k]=b.cols[k]
  ·rw [decide_eq_true hc] at sp
   (refine gPC (sp) ?_;conv=>whnf)
   (refine gGo ?_;intros)
   refine ⟨_,_,?_,⟨k+1,by omega,take_snoc htk hlt hltb hc,rfl,rfl⟩,⟨[(2,2),(3,3)],[],[],.mq (.ci 2 (.ci 3 .nil))⟩⟩
   omega
  ·rw [decide_eq_false hc] at sp
   (refine gPC (sp) ?_;conv=>whnf)
   (refine gGr ?_;intros)
   exact ret0 rfl (congrArg V.bool (by
    rw [decide_eq_false]
    rintro ⟨_,_,h⟩
    exact hc (by simp only [h]))) rfl
 ·have hke:k=a.cols.length:=by omega
  rw [hke,List.take_length,hL,List.take_length] at htk
  (refine gGr ?_;intros)
  exact ret0 rfl (congrArg V.bool (by rw [decide_eq_true];exact ⟨hid,hname,htk⟩)) rfl
def tblRows (l:List Table):List (List V):=l.map Table.row
theorem tblRows_len (l:List Table):(tblRows l).length=l.length:=by simp [tblRows]
theorem tblRows_get {l:List Table}{i:Nat}(h:i<l.length):(tblRows l)[i]?=some l[i].row:=by simp [tblRows,h]
def Table.zero:Table:=⟨0,[],[]⟩
structure Item where
 tab:Table
 from_:Int
 until_:Int
 deriving DecidableEq
structure Coll where
 version:Int
 oldest:Int
 items:List Item
 deriving DecidableEq
def Item.row (x:Item):List V:=[.int .i64 x.tab.id,.str x.tab.name,.sl (colRows x.tab.cols) false,.int .i64 x.from_,.int .i64 x.until_]
def itemRows (l:List Item):List (List V):=l.map Item.row
def Coll.row (c:Coll):List V:=[.int .i64 c.version,.int .i64 c.oldest,.sl (itemRows c.items) false]
def Coll.zero:Coll:=⟨0,0,[]⟩
theorem colRows_sz (l:List Column):rowsSz (colRows l) 2:=by
 unfold rowsSz
 intro r hr
 obtain ⟨c,_,rfl⟩:=List.mem_map.1 hr
 rfl
theorem cellRows_sz (l:List Cell):rowsSz (cellRows l) 2:=by
 unfold rowsSz
 intro r hr
 obtain ⟨c,_,rfl⟩:=List.mem_map.1 hr
 rfl
theorem fitN {n b:Nat}(h:n≤4294967296) (hb:0<b∧b≤1024):fitsV n b:=by
 obtain ⟨h0,h1⟩:=hb
 have h2:n*b≤4294967296*1024:=Nat.mul_le_mul h h1
 exact ⟨by omega,by omega⟩
set_option maxHeartbeats 1000000 in
theorem cloneCols_own (rows:List (List V)) (hz:rowsSz rows 2) (hlen:rows.length≤4294967296):Spec Tryd.prog 46 [.sl rows false] [] (.osl 5 0 0 rows.length rows.length) [(5,.rows 2 rows (some []))]:=by
 have hfit:fitsV rows.length 40:=fitN hlen (by omega)
 refine gEn env Tryd.func46 fun Γ hN hK hML=>?_
 cases rows with
 | nil =>
  refine gA ?_
  (refine gE env hN (by kernel_rfl) ?_;conv=>whnf)
  refine W.nilSplit (full:=false) 0 (by rfl) ?_ ?_
  ·(refine gGo ?_;intros)
   refine W.ownNil 2 5 2 rfl rfl ?_
   (refine gM ?_;conv=>whnf)
   exact retH rfl (.refl _) rfl rfl rfl ⟨rfl,rfl,trivial⟩
  ·(refine gGl ?_;intros)
   refine Or.inl ?_
   conv=>whnf
   (refine gGo ?_;intros)
   refine ⟨⟨trivial,rfl⟩,⟨by decide,by decide⟩,.inl ⟨rfl,rfl,?_⟩⟩
   conv=>whnf
   (refine gGo ?_;intros)
   (refine gM ?_;conv=>whnf)
   exact retH rfl (.refl _) rfl rfl rfl ⟨rfl,rfl,trivial⟩
 | cons r rs =>
  (refine gGl ?_;intros)
  refine Or.inl ?_
  conv=>whnf
  (refine gGo ?_;intros)
  refine ⟨⟨hz,rfl⟩,by simpa using hfit,.inl ⟨rfl,rfl,?_⟩⟩
  simp only [Nat.zero_add,List.nil_append]
  conv=>whnf
  (refine gGo ?_;intros)
  (refine gM ?_;conv=>whnf)
  exact retH rfl (.refl _) rfl rfl rfl ⟨rfl,rfl,trivial⟩
set_option maxHeartbeats 1000000 in
theorem cloneCells (rows:List (List V)) (hz:rowsSz rows 2) (hlen:rows.length≤4294967296):Spec Tryd.prog 47 [.sl rows false] [] (.sl rows false) []:=by
 have hfit:fitsV rows.length 24:=fitN hlen (by omega)
 refine gEn env Tryd.func47 fun Γ hN hK hML=>?_
 cases rows with
 | nil =>
  refine gA ?_
  (refine gE env hN (by kernel_rfl) ?_;conv=>whnf)
  refine W.nilSplit (full:=false) 0 (by rfl) ?_ ?_
  ·(refine gGr ?_;intros)
   exact ret0 rfl rfl rfl
  ·(refine gGl ?_;intros)
   refine Or.inl ?_
   conv=>whnf
   (refine gGo ?_;intros)
   refine ⟨⟨trivial,rfl⟩,⟨by decide,by decide⟩,.inl ⟨rfl,rfl,?_⟩⟩
   conv=>whnf
   (refine gGo ?_;intros)
   refine W.leG (mp:=[]) (bo:=[5]) (st':=⟨[(2,.sl [] false)],[],[]⟩) (LeG.mk' rfl rfl rfl ⟨⟨_,Lent.whole rfl rfl rfl rfl (.inl rfl),rfl⟩,trivial⟩ .nil rfl rfl (by rw [hK];rfl)) ?_
   (refine gM ?_;conv=>whnf)
   exact ret0 rfl rfl rfl
 | cons r rs =>
  (refine gGl ?_;intros)
  refine Or.inl ?_
  conv=>whnf
  (refine gGo ?_;intros)
  refine ⟨⟨hz,rfl⟩,by simpa using hfit,.inl ⟨rfl,rfl,?_⟩⟩
  simp only [Nat.zero_add,List.nil_append]
  conv=>whnf
  (refine gGo ?_;intros)
  refine W.leG (mp:=[]) (bo:=[5]) (st':=⟨[(2,.sl (r::rs) false)],[],[]⟩) (LeG.mk' rfl rfl rfl ⟨⟨_,Lent.whole rfl rfl rfl rfl (.inl rfl),rfl⟩,trivial⟩ .nil rfl rfl (by rw [hK];rfl)) ?_
  (refine gM ?_;conv=>whnf)
  exact ret0 rfl rfl rfl
structure Table.Few (t:Table):Prop where
 cols:t.cols.length≤4294967296
 cells:∀ c∈t.cols,c.cells.length≤4294967296
def Coll.Few (c:Coll):Prop:=c.items.length≤4294967296∧∀ x∈c.items,x.tab.Few
def ixS (t:Str):List Str→Option Nat
 | []=>none
 | s::l=>if t=s then some 0 else (ixS t l).map (· + 1)
def mapG (f:Nat→V):Nat→List Str→List (Nat×V×V)
 | _,[]=>[]
 | k,s::l=>(k,.str s,f k)::mapG f (k+1) l
theorem mapG_at (f:Nat→V) (t:Str):∀ (l:List Str) (k:Nat),mapAt (.str t) (mapG f k l)=some ((ixS t l).map fun i=>(i,k+i,f (k+i)))
 | [],k=>rfl
 | s::l,k=>by
  by_cases h:t=s
  ·subst h
   simp [mapG,mapAt,eqKey,ixS]
  ·have:=mapG_at f t l (k+1)
   simp only [mapG,mapAt,eqKey,h,decide_false,this,ixS,if_false]
   cases ixS t l with
   | none=>rfl
   | some i =>
    simp only [Option.map_some]
    rw [show k+1+i=k+(i+1) by omega]
theorem mapG_len (f:Nat→V):∀ (l:List Str) (k:Nat),(mapG f k l).length=l.length
 | [],_=>rfl
 | s::l,k=>by simp [mapG,mapG_len f l]
theorem mapG_snoc (f:Nat→V) (s:Str):∀ (l:List Str) (k:Nat),mapG f k (l++[s])=mapG f k l++[(k+l.length,.str s,f (k+l.length))]
 | [],k=>rfl
 | u::l,k=>by
  simp only [List.cons_append,mapG,mapG_snoc f s l (k+1),List.length_cons]
  rw [show k+1+l.length=k+(l.length+1) by omega]
theorem ixS_none {t:Str}:∀ {l:List Str},ixS t l=none↔t∉l
 | []=>by simp [ixS]
 | s::l=>by
  by_cases h:t=s
  ·simp [ixS,h]
  ·simp [ixS,h,ixS_none (l:=l)]
theorem ixS_some {t:Str}:∀ {l:List Str}{i:Nat},ixS t l=some i→l[i]?=some t
 | [],i,h=>by cases h
 | s::l,i,h=>by
  by_cases e:t=s
  ·simp only [ixS,e,if_true,Option.some.injEq] at h;subst h;simp [e]
  ·simp only [ixS,e,if_false,Option.map_eq_some_iff] at h
   obtain ⟨j,hj,rfl⟩:=h
   simpa using ixS_some hj
theorem mapG_new (f:Nat→V) {t:Str}{l:List Str}(h:t∉l):mapAt (.str t) (mapG f 0 l)=some none:=by rw [mapG_at,ixS_none.2 h];rfl
theorem flags_at (t:Str) (l:List Str):∃ r,mapAt (.str t) (mapG (fun _=>.bool true) 0 l)=some r∧lookAt (mapG (fun _=>V.bool true) 0 l) (.bool false) false r=.bool (decide (t∈l)):=by
 refine ⟨_,mapG_at _ t l 0,?_⟩
 cases h:ixS t l with
 | none=>simp [lookAt,lookRes,ixS_none.1 h]
 | some i =>
  have:=List.mem_of_getElem? (ixS_some h)
  simp [lookAt,lookRes,this]
def keyFrom (seen:List Str):List Cell→Bool
 | []=>true
 | c::cs=>!c.null&&!decide (c.text∈seen)&&keyFrom (seen++[c.text]) cs
def keyB (cs:List Cell):Bool:=keyFrom [] cs
def textsOf (cs:List Cell):List Str:=cs.map Cell.text
theorem keyFrom_iff:∀ (cs:List Cell) (seen:List Str),keyFrom seen cs=true↔(∀ c∈cs,c.null=false)∧(∀ c∈cs,c.text∉seen)∧(textsOf cs).Nodup
 | [],seen=>by simp [keyFrom,textsOf]
 | c::cs,seen=>by
  simp only [keyFrom,Bool.and_eq_true,keyFrom_iff cs,textsOf,List.map_cons,List.nodup_cons,List.mem_cons,Bool.not_eq_true',decide_eq_false_iff_not,List.mem_append,List.not_mem_nil,or_false]
  constructor
  ·rintro ⟨⟨h1,h2⟩,h3,h4,h5⟩
   refine ⟨?_,?_,?_,h5⟩
   ·rintro x (rfl | hx)
    ·exact h1
    ·exact h3 x hx
   ·rintro x (rfl | hx)
    ·exact h2
    ·exact fun h=>h4 x hx (.inl h)
   ·intro hm
    obtain ⟨x,hx,e⟩:=List.mem_map.1 hm
    exact h4 x hx (.inr e)
  ·rintro ⟨h1,h2,h3,h4⟩
   refine ⟨⟨h1 c (.inl rfl),h2 c (.inl rfl)⟩,fun x hx=>h1 x (.inr hx),fun x hx=>?_,h4⟩
   rintro (h | h)
   ·exact h2 x (.inr hx) h
   ·exact h3 (by rw [←h];exact List.mem_map.2 ⟨x,hx,rfl⟩)
theorem keyB_iff (cs:List Cell):keyB cs=true↔(∀ c∈cs,c.null=false)∧(textsOf cs).Nodup:=by
 unfold keyB;rw [keyFrom_iff];simp
set_option maxHeartbeats 2000000 in
theorem isKey_spec (t:Table) (k:Nat) (hk:k<t.cols.length):Spec Tryd.prog 40 [.agg t.row,.int .i64 k] [] (.bool (keyB t.cols[k].cells)) []:=by
 have hcl:=colRows_len t.cols
 have hx:=colRows_get hk
 generalize t.cols[k]=c at *
 have hl:=cellRows_len c.cells
 unfold keyB
 refine gEn env Tryd.func40 fun Γ hN hK hML=>?_
 (refine gGo ?_;intros)
 refine rowAt_of (by simpa using hx) ?_
 conv=>whnf
 (refine gGo ?_;intros)
 refine W.loopG (fun n st=>∃ j:Nat,j≤c.cells.length∧keyFrom [] c.cells=keyFrom (textsOf (c.cells.take j)) (c.cells.drop j)∧n=c.cells.length-j∧st=⟨[(5,.omap 8 0),(14,.sl (cellRows c.cells) false),(15,.int .i64 (cellRows c.cells).length),(16,.int .i64 j)],[(8,[.map (mapG (fun _=>.bool true) 0 (textsOf (c.cells.take j))) (textsOf (c.cells.take j)).length (some [])])],[8]⟩)
  c.cells.length _ ⟨0,by omega,rfl,by omega,rfl⟩ ⟨[(8,8)],[],[],.mq (.ci 8 .nil)⟩ ?_
 rintro n st ⟨j,hj,hkf,rfl,rfl⟩
 (refine gGo ?_;intros)
 refine boolRes_split (fun hb=>?_) (fun hb=>?_)<;>conv=>whnf
 ·have hlt:j<c.cells.length:=by omega
  have hg:=cellRows_get hlt
  have hd:c.cells.drop j=c.cells[j]::c.cells.drop (j+1):=List.drop_eq_getElem_cons hlt
  have ht:textsOf (c.cells.take (j+1))=textsOf (c.cells.take j)++[c.cells[j].text]:=by
   unfold textsOf;rw [List.take_succ_eq_append_getElem hlt,List.map_append];rfl
  rw [hd] at hkf
  simp only [keyFrom] at hkf
  rw [←ht] at hkf
  generalize c.cells[j]=x at *
  (refine gGo ?_;intros)
  refine rowAt_of (by simpa using hg) ?_
  conv=>whnf
  (refine gGo ?_;intros)
  cases hn:x.null with
  | true =>
   (refine gGr ?_;intros)
   exact ret0 rfl (congrArg V.bool (by rw [hkf];simp [hn])) rfl
  | false =>
   (refine gGo ?_;intros)
   refine zok_intro (by kernel_rfl) ?_
   conv=>whnf
   obtain ⟨r,hr1,hr2⟩:=flags_at x.text (textsOf (c.cells.take j))
   refine ⟨r,hr1,?_⟩
   rw [hr2]
   conv=>whnf
   by_cases hm:x.text∈textsOf (c.cells.take j)
   ·rw [decide_eq_true hm]
    (refine gGr ?_;intros)
    exact ret0 rfl (congrArg V.bool (by rw [hkf];simp [hm])) rfl
   ·rw [decide_eq_false hm]
    (refine gGo ?_;intros)
    refine ⟨none,mapG_new _ hm,?_⟩
    conv=>whnf
    (refine gGo ?_;intros)
    refine ⟨_,_,?_,⟨j+1,by omega,by rw [hkf];simp [hn,hm],rfl,rfl⟩,[(8,8)],[],[],LeG.mq (.cons 8 rfl rfl (.refl _) ?_ .nil)⟩
    ·omega
    ·rw [ht,mapG_snoc,List.length_append]
     simp
     rfl
 ·have hje:j=c.cells.length:=by omega
  rw [hje,List.drop_length] at hkf
  (refine gGr ?_;intros)
  exact ret0 rfl (congrArg V.bool (by rw [hkf];rfl)) rfl
theorem keyB_new {cs:List Cell}(h:(textsOf cs).Nodup) {j:Nat}(hj:j<cs.length):cs[j].text∉textsOf (cs.take j):=by
 intro hm
 obtain ⟨x,hx,e⟩:=List.mem_map.1 hm
 obtain ⟨i,hi,rfl⟩:=List.mem_iff_getElem.1 hx
 simp only [List.length_take] at hi
 rw [List.getElem_take] at e
 have h1:=(List.pairwise_iff_getElem.1 h) i j (by simp [textsOf];omega) (by simp [textsOf];omega) (by omega)
 simp only [textsOf,List.getElem_map] at h1
 exact h1 e
theorem textsOf_snoc {cs:List Cell}{j:Nat}(hj:j<cs.length):textsOf (cs.take (j+1))=textsOf (cs.take j)++[cs[j].text]:=by
 unfold textsOf;rw [List.take_succ_eq_append_getElem hj,List.map_append];rfl
def ixMap (l:List Str):List (Nat×V×V):=mapG (fun i=>.int .i64 i) 0 l
theorem ixMap_snoc (l:List Str) (s:Str):ixMap (l++[s])=ixMap l++[(l.length,.str s,.int .i64 (l.length:Nat))]:=by
 unfold ixMap;rw [mapG_snoc];simp
set_option maxHeartbeats 2000000 in
theorem byKey_spec (t:Table) (k:Nat) (hk:k<t.cols.length) (hkey:(textsOf t.cols[k].cells).Nodup):Spec Tryd.prog 29 [.agg t.row,.int .i64 k] [] (.omap 8 0) [(8,.map (ixMap (textsOf t.cols[k].cells)) (textsOf t.cols[k].cells).length (some []))]:=by
 have hcl:=colRows_len t.cols
 have hx:=colRows_get hk
 generalize t.cols[k]=c at *
 have hl:=cellRows_len c.cells
 refine gEn env Tryd.func29 fun Γ hN hK hML=>?_
 (refine gGo ?_;intros)
 refine rowAt_of (by simpa using hx) ?_
 conv=>whnf
 (refine gGo ?_;intros)
 refine W.loopG (fun n st=>∃ j:Nat,j≤c.cells.length∧n=c.cells.length-j∧st=⟨[(5,.omap 8 0),(14,.sl (cellRows c.cells) false),(15,.int .i64 (cellRows c.cells).length),(16,.int .i64 j)],[(8,[.map (ixMap (textsOf (c.cells.take j))) (textsOf (c.cells.take j)).length (some [])])],[8]⟩)
  c.cells.length _ ⟨0,by omega,by omega,rfl⟩ ⟨[(8,8)],[],[],.mq (.ci 8 .nil)⟩ ?_
 rintro n st ⟨j,hj,rfl,rfl⟩
 (refine gGo ?_;intros)
 refine boolRes_split (fun hb=>?_) (fun hb=>?_)<;>conv=>whnf
 ·have hlt:j<c.cells.length:=by omega
  have hg:=cellRows_get hlt
  have ht:=textsOf_snoc hlt
  have hnew:=keyB_new hkey hlt
  have hjl:(textsOf (c.cells.take j)).length=j:=by simp [textsOf];omega
  generalize c.cells[j]=x at *
  (refine gGo ?_;intros)
  refine rowAt_of (by simpa using hg) ?_
  conv=>whnf
  (refine gGo ?_;intros)
  refine ⟨none,mapG_new _ hnew,?_⟩
  conv=>whnf
  (refine gGo ?_;intros)
  refine ⟨_,_,?_,⟨j+1,by omega,rfl,rfl⟩,[(8,8)],[],[],LeG.mq (.cons 8 rfl rfl (.refl _) ?_ .nil)⟩
  ·omega
  ·rw [ht,ixMap_snoc,List.length_append,hjl]
   rfl
 ·have hje:j=c.cells.length:=by omega
  rw [hje,List.take_length]
  (refine gGo ?_;intros)
  (refine gM ?_;conv=>whnf)
  exact retH rfl (.refl _) rfl rfl rfl ⟨rfl,rfl,trivial⟩
def cellAt (c:Column) (i:Nat):Cell:=c.cells.getD i ⟨false,[]⟩
def rowM (t:Table) (i:Nat):List Cell:=t.cols.map fun c=>cellAt c i
theorem rowM_len (t:Table) (i:Nat):(rowM t i).length=t.cols.length:=by simp [rowM]
set_option maxHeartbeats 2000000 in
theorem row_spec (t:Table) (i:Nat) (hi:∀ c∈t.cols,i<c.cells.length) (hn:t.cols.length≤4294967295):Spec Tryd.prog 30 [.agg t.row,.int .i64 i] [] (.sl (cellRows (rowM t i)) false) []:=by
 have hcl:=colRows_len t.cols
 refine gEn env Tryd.func30 fun Γ hN hK hML=>?_
 (refine gGo ?_;intros)
 refine W.ownNil 5 51 2 rfl rfl ?_
 refine W.loopG (fun n st=>∃ j:Nat,j≤t.cols.length∧n=t.cols.length-j∧st=⟨[(1,.int .i64 i),(5,.osl 51 0 0 j j),(9,.sl (colRows t.cols) false),(10,.int .i64 (colRows t.cols).length),(11,.int .i64 j)],[(51,[.rows 2 (cellRows ((rowM t i).take j)) (some [])])],[51]⟩)
  t.cols.length _ ⟨0,by omega,by omega,rfl⟩ ⟨[(51,51)],[],[],.mq (.ci 51 .nil)⟩ ?_
 rintro n st ⟨j,hj,rfl,rfl⟩
 (refine gGo ?_;intros)
 refine boolRes_split (fun hb=>?_) (fun hb=>?_)<;>conv=>whnf
 ·have hlt:j<t.cols.length:=by omega
  have hg:=colRows_get hlt
  have hc:=hi _ (List.getElem_mem hlt)
  have hsn:(rowM t i).take (j+1)=(rowM t i).take j++[cellAt t.cols[j] i]:=by
   rw [List.take_succ_eq_append_getElem (by rw [rowM_len];exact hlt)]
   simp [rowM]
  have hjl:(cellRows ((rowM t i).take j)).length=j:=by rw [cellRows_len,List.length_take,rowM_len];omega
  have hca:cellAt t.cols[j] i=t.cols[j].cells[i]:=by simp [cellAt,hc]
  rw [hca] at hsn
  generalize t.cols[j]=c at *
  have hgc:=cellRows_get hc
  have hl:=cellRows_len c.cells
  generalize c.cells[i]=x at *
  (refine gGo ?_;intros)
  refine rowAt_of (by simpa using hg) ?_
  conv=>whnf
  (refine gGo ?_;intros)
  refine rowAt_of (by simpa using hgc) ?_
  conv=>whnf
  (refine gGo ?_;intros)
  refine ⟨⟨rowsSz_cons rfl rowsSz_nil,hjl.symm⟩,fitN (n:=j+1) (b:=24) (by omega) (by omega),.inl ⟨rfl,rfl,?_⟩⟩
  conv=>whnf
  (refine gGo ?_;intros)
  refine ⟨_,_,?_,⟨j+1,by omega,rfl,rfl⟩,[(51,51)],[],[],LeG.mq (.cons 51 rfl rfl (.refl _) ?_ .nil)⟩
  ·omega
  ·rw [hsn];simp only [cellRows,List.map_append];rfl
 ·have hje:j=t.cols.length:=by omega
  have htk:(rowM t i).take j=rowM t i:=List.take_of_length_le (by rw [rowM_len];omega)
  have hjl:j=(cellRows (rowM t i)).length:=by rw [cellRows_len,rowM_len];omega
  rw [htk]
  refine W.leG (mp:=[]) (bo:=[51]) (st':=⟨[(5,.sl (cellRows (rowM t i)) false),(12,.bool false)],[],[]⟩) (LeG.mk' rfl rfl rfl ⟨⟨_,Lent.whole rfl rfl hjl rfl (.inl rfl),rfl⟩,⟨_,.refl _,rfl⟩,trivial⟩ .nil rfl rfl (by rw [hK];rfl)) ?_
  (refine gGr ?_;intros)
  exact ret0 rfl rfl rfl
set_option maxHeartbeats 2000000 in
theorem equalCells_spec (a b:List Cell):Spec Tryd.prog 39 [.sl (cellRows a) false,.sl (cellRows b) false] [] (.bool (decide (a=b))) []:=by
 have hla:=cellRows_len a
 have hlb:=cellRows_len b
 refine gEn env Tryd.func39 fun Γ hN hK hML=>?_
 (refine gGo ?_;intros)
 refine boolRes_split (fun hb=>?_) (fun hb=>?_)<;>conv=>whnf
 ·(refine gGr ?_;intros)
  exact ret0 rfl (congrArg V.bool (by rw [decide_eq_false];intro h;exact hb (by rw [h]))) rfl
 have hL:a.length=b.length:=by omega
 (refine gGo ?_;intros)
 refine W.loopG (fun n st=>∃ k:Nat,k≤a.length∧a.take k=b.take k∧n=a.length-k∧st=⟨[(0,.sl (cellRows a) false),(1,.sl (cellRows b) false),(12,.int .i64 (cellRows a).length),(13,.int .i64 k)],[],[]⟩)
  a.length _ ⟨0,by omega,by simp,by omega,rfl⟩ ⟨[],[],[],.mq .nil⟩ ?_
 rintro n st ⟨k,hk,htk,rfl,rfl⟩
 (refine gGo ?_;intros)
 refine boolRes_split (fun hb=>?_) (fun hb=>?_)<;>conv=>whnf
 ·have hlt:k<a.length:=by omega
  have hltb:k<b.length:=by omega
  (refine gGo ?_;intros)
  refine rowAt_of (by simpa using cellRows_get hlt) ?_
  conv=>whnf
  (refine gGo ?_;intros)
  refine rowAt_of (by simpa using cellRows_get hltb) ?_
  conv=>whnf
  (refine gGo ?_;intros)
  refine ⟨_,_,_,cells_ne rfl a[k] b[k] rfl rfl (by kernel_rfl),?_⟩
  by_cases hc:a[k]=b[k]
  ·rw [decide_eq_true hc]
   conv=>whnf
   (refine gGo ?_;intros)
   refine ⟨_,_,?_,⟨k+1,by omega,take_snoc htk hlt hltb hc,rfl,rfl⟩,⟨[],[],[],.mq .nil⟩⟩
   omega
  ·rw [decide_eq_false hc]
   conv=>whnf
   (refine gGr ?_;intros)
   exact ret0 rfl (congrArg V.bool (by
    rw [decide_eq_false]
    intro h
    exact hc (by simp only [h]))) rfl
 ·have hke:k=a.length:=by omega
  rw [hke,List.take_length,hL,List.take_length] at htk
  (refine gGr ?_;intros)
  exact ret0 rfl (congrArg V.bool (by rw [decide_eq_true];exact htk)) rfl
def namesOf (l:List Column):List Str:=l.map Column.name
set_option maxHeartbeats 2000000 in
theorem sameName_spec (a b:Column):Spec Tryd.prog 36 [.agg a.row,.agg b.row] [] (.bool (decide (a.name=b.name))) []:=by
 refine gEn env Tryd.func36 fun Γ hN hK hML=>?_
 (((refine gGr ?_;intros));first | (exact ret0 rfl (congrArg V.bool (by simp;omega)) rfl) | ((refine boolRes_split (fun hb=>?_) (fun hb=>?_)<;>conv=>whnf)<;>(((refine gGr ?_;intros));first | (exact ret0 rfl (congrArg V.bool (by simp;omega)) rfl) | ((refine boolRes_split (fun hb=>?_) (fun hb=>?_)<;>conv=>whnf)<;>(((refine gGr ?_;intros));first | (exact ret0 rfl (congrArg V.bool (by simp;omega)) rfl) | ((refine boolRes_split (fun hb=>?_) (fun hb=>?_)<;>conv=>whnf)<;>(((refine gGr ?_;intros));first | (exact ret0 rfl (congrArg V.bool (by simp;omega)) rfl) | ((refine boolRes_split (fun hb=>?_) (fun hb=>?_)<;>conv=>whnf)<;>(((refine gGr ?_;intros));first | (exact ret0 rfl (congrArg V.bool (by simp;omega)) rfl) | ((refine boolRes_split (fun hb=>?_) (fun hb=>?_)<;>conv=>whnf)<;>(((refine gGr ?_;intros));first | (exact ret0 rfl (congrArg V.bool (by simp;omega)) rfl) | ((refine boolRes_split (fun hb=>?_) (fun hb=>?_)<;>conv=>whnf)<;>(((refine gGr ?_;intros));first | (exact ret0 rfl (congrArg V.bool (by simp;omega)) rfl) | ((refine boolRes_split (fun hb=>?_) (fun hb=>?_)<;>conv=>whnf)<;>(((refine gGr ?_;intros));first | (exact ret0 rfl (congrArg V.bool (by simp;omega)) rfl) | ((refine boolRes_split (fun hb=>?_) (fun hb=>?_)<;>conv=>whnf)<;>(((refine gGr ?_;intros));first | (exact ret0 rfl (congrArg V.bool (by simp;omega)) rfl) | ((refine boolRes_split (fun hb=>?_) (fun hb=>?_)<;>conv=>whnf)<;>(((refine gGr ?_;intros));first | (exact ret0 rfl (congrArg V.bool (by simp;omega)) rfl) | ((refine boolRes_split (fun hb=>?_) (fun hb=>?_)<;>conv=>whnf)<;>(((refine gGr ?_;intros));first | (exact ret0 rfl (congrArg V.bool (by simp;omega)) rfl) | ((refine boolRes_split (fun hb=>?_) (fun hb=>?_)<;>conv=>whnf)<;>(((refine gGr ?_;intros));first | (exact ret0 rfl (congrArg V.bool (by simp;omega)) rfl) | ((refine boolRes_split (fun hb=>?_) (fun hb=>?_)<;>conv=>whnf)<;>fail))))))))))))))))))))))))
set_option maxHeartbeats 2000000 in
theorem equalNames_spec (a b:List Column):Spec Tryd.prog 35 [.sl (colRows a) false,.sl (colRows b) false,.fn 36 []] [] (.bool (decide (namesOf a=namesOf b))) []:=by
 have hla:=colRows_len a
 have hlb:=colRows_len b
 refine gEn env Tryd.func35 fun Γ hN hK hML=>?_
 (refine gGo ?_;intros)
 refine boolRes_split (fun hb=>?_) (fun hb=>?_)<;>conv=>whnf
 ·(refine gGr ?_;intros)
  exact ret0 rfl (congrArg V.bool (by rw [decide_eq_false];intro h;have:=congrArg List.length h;simp [namesOf] at this;omega)) rfl
 have hL:a.length=b.length:=by omega
 (refine gGo ?_;intros)
 refine W.loopG (fun n st=>∃ k:Nat,k≤a.length∧(namesOf a).take k=(namesOf b).take k∧n=a.length-k∧st=⟨[(1,.sl (colRows b) false),(2,.fn 36 []),(15,.sl (colRows a) false),(16,.int .i64 (colRows a).length),(17,.int .i64 k)],[],[]⟩)
  a.length _ ⟨0,by omega,by simp,by omega,rfl⟩ ⟨[],[],[],.mq .nil⟩ ?_
 rintro n st ⟨k,hk,htk,rfl,rfl⟩
 (refine gGo ?_;intros)
 refine boolRes_split (fun hb=>?_) (fun hb=>?_)<;>conv=>whnf
 ·have hlt:k<a.length:=by omega
  have hltb:k<b.length:=by omega
  have sp:=sameName_spec a[k] b[k]
  (refine gGo ?_;intros)
  refine rowAt_of (by simpa using colRows_get hlt) ?_
  conv=>whnf
  (refine gGo ?_;intros)
  refine rowAt_of (by simpa using colRows_get hltb) ?_
  conv=>whnf
  (refine gGo ?_;intros)
  (refine gPC (sp) ?_;conv=>whnf)
  by_cases hc:a[k].name=b[k].name
  ·rw [decide_eq_true hc]
   conv=>whnf
   (refine gGo ?_;intros)
   refine ⟨_,_,?_,⟨k+1,by omega,take_snoc htk (by simp [namesOf];omega) (by simp [namesOf];omega) (by simpa [namesOf] using hc),rfl,rfl⟩,⟨[],[],[],.mq .nil⟩⟩
   omega
  ·rw [decide_eq_false hc]
   conv=>whnf
   (refine gGr ?_;intros)
   exact ret0 rfl (congrArg V.bool (by
    rw [decide_eq_false]
    intro h
    refine hc ?_
    have h1:(namesOf a)[k]?=(namesOf b)[k]?:=by rw [h]
    simpa [namesOf,hlt,hltb] using h1)) rfl
 ·have hke:k=a.length:=by omega
  have e1:(namesOf a).take k=namesOf a:=List.take_of_length_le (by simp [namesOf];omega)
  have e2:(namesOf b).take k=namesOf b:=List.take_of_length_le (by simp [namesOf];omega)
  rw [e1,e2] at htk
  (refine gGr ?_;intros)
  exact ret0 rfl (congrArg V.bool (by rw [decide_eq_true];exact htk)) rfl
end Go.Sx.Sp
