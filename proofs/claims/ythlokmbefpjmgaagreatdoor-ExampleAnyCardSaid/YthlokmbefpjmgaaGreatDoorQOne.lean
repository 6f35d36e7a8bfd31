/- Contracts of valid tables. -/
import Derived.Test.YthlokmbefpjmgaaGreatDoorSpOne
import Derived.Test.YthlokmbefpjmgaaGreatDoorSxFive
import Derived.Test.YthlokmbefpjmgaaGreatDoorSxTwo
import Derived.Test.YthlokmbefpjmgaaGreatDoorSxFour
set_option linter.unusedVariables false
set_option linter.unusedSimpArgs false
namespace Go.Sx.Sp
open Go Go.Sx Go.Proofs
attribute [local irreducible] GoodW
abbrev Str:=List UInt8
structure Cell where
 null:Bool
 text:Str
 deriving DecidableEq
structure Column where
 name:Str
 cells:List Cell
 deriving DecidableEq
structure Table where
 id:Int
 name:Str
 cols:List Column
 deriving DecidableEq
def Cell.row (c:Cell):List V:=[.bool c.null,.str c.text]
def cellRows (l:List Cell):List (List V):=l.map Cell.row
def Column.row (c:Column):List V:=[.str c.name,.sl (cellRows c.cells) false]
def colRows (l:List Column):List (List V):=l.map Column.row
def Table.row (t:Table):List V:=[.int .i64 t.id,.str t.name,.sl (colRows t.cols) false]
def strRows (l:List Str):List (List V):=l.map fun s=>[.str s]
theorem cellRows_len (l:List Cell):(cellRows l).length=l.length:=by simp [cellRows]
theorem colRows_len (l:List Column):(colRows l).length=l.length:=by simp [colRows]
theorem strRows_len (l:List Str):(strRows l).length=l.length:=by simp [strRows]
theorem intRows_len (k:IntKind) (l:List Int):(intRows k l).length=l.length:=by simp [intRows]
theorem cellRows_get {l:List Cell}{i:Nat}(h:i<l.length):(cellRows l)[i]?=some l[i].row:=by simp [cellRows,h]
theorem colRows_get {l:List Column}{i:Nat}(h:i<l.length):(colRows l)[i]?=some l[i].row:=by simp [colRows,h]
theorem strRows_get {l:List Str}{i:Nat}(h:i<l.length):(strRows l)[i]?=some [.str l[i]]:=by simp [strRows,h]
theorem intRows_get {k:IntKind}{l:List Int}{i:Nat}(h:i<l.length):(intRows k l)[i]?=some [.int k l[i]]:=by simp [intRows,h]
def modK (n m:Int):Int:=if m<1 then 0 else n % m
def diceB (l:List Int) (p:Nat):Blk:=.rows 2 [[.sl (intRows .i64 l) false,.int .i64 p]] none
def nextV (l:List Int) (p:Nat) (n:Int):Int:=match l[p]? with | some x=>modK x n | none=>0
def nextP (l:List Int) (p:Nat):Nat:=match l[p]? with | some _=>p+1 | none=>p
theorem modK_range {n m:Int}:0≤modK n m∧(1≤m→modK n m<m):=by
 unfold modK;split
 ·exact ⟨by omega,fun h=>by omega⟩
 ·exact ⟨Int.emod_nonneg _ (by omega),fun h=>Int.emod_lt_of_pos _ (by omega)⟩
theorem nextV_range (l:List Int) (p:Nat) {n:Int}(hn:1≤n):0≤nextV l p n∧nextV l p n<n:=by
 unfold nextV;split
 ·exact ⟨modK_range.1,modK_range.2 hn⟩
 ·exact ⟨by omega,by omega⟩
theorem nextP_le {l:List Int}{p:Nat}(hp:p≤l.length):nextP l p≤l.length:=by
 unfold nextP;split
 ·rename_i h;have:=(List.getElem?_eq_some_iff.1 h).1;omega
 ·exact hp
set_option maxHeartbeats 1000000 in
theorem mod_spec (n m:Int) (hm:m≤4611686018427387904):Spec Tryz.prog 14 [.int .i64 n,.int .i64 m] [] (.int .i64 (modK n m)) []:=by
 refine gEn env Tryz.func14 fun Γ hN hK hML=>?_;refine gT (fun hb=>?_) fun hb=>?_
 ·refine gGr ?_;exact ret0 rfl (congrArg (V.int .i64) (by simp [modK,hb])) rfl
 ·have h1:-m<n.tmod m:=by have:=Int.lt_tmod_of_pos n (show 0<m by omega);omega
  have h2:n.tmod m<m:=Int.tmod_lt_of_pos n (by omega);have h3:(n.tmod m+m).tmod m=n % m:=by
   rw [Int.tmod_eq_emod_of_nonneg (by omega),Int.add_emod_right,Int.tmod_eq_emod];split
   ·simp
   ·rw [show ((m.natAbs:Nat):Int)=m by omega];rw [Int.sub_emod_right,Int.emod_emod]
  refine gGr ?_;exact ret0 rfl (congrArg (V.int .i64) (by simp [modK,hb];exact h3)) rfl
set_option maxHeartbeats 1000000 in
theorem light_spec (l:List Int):Spec Tryz.prog 7 [.sl (intRows .i64 l) false] [] (.bool (decide (l.length≤500))) []:=by
 have hl:=intRows_len .i64 l;refine gEn env Tryz.func7 fun Γ hN hK hML=>?_;refine gGo ?_;intros;refine boolRes_keep ?_;(conv=>whnf);refine gGr ?_;exact ret0 rfl (congrArg V.bool (by simp;omega)) rfl
set_option maxHeartbeats 1000000 in
theorem roll_spec (l:List Int):Spec Tryz.prog 9 [.sl (intRows .i64 l) false] [] (.bp 5 0) [(5,diceB l 0)]:=by
 refine gEn env Tryz.func9 fun Γ hN hK hML=>?_;refine gGo ?_;(refine gM ?_;conv=>whnf);exact retH rfl (.refl _) rfl rfl rfl ⟨rfl,rfl,trivial⟩
set_option maxHeartbeats 2000000 in
theorem next_spec (l:List Int) (p:Nat) (n:Int) (hn:n≤4611686018427387904) (hp:p≤l.length):Spec Tryz.prog 13 [.bp 0 0,.int .i64 n] [(0,diceB l p)] (.int .i64 (nextV l p n)) [(0,diceB l (nextP l p))]:=by
 have hl:=intRows_len .i64 l;refine gEn env Tryz.func13 fun Γ hN hK hML=>?_;refine gT (fun hb=>?_) fun hb=>?_
 ·have h0:l[p]?=none:=List.getElem?_eq_none (by omega);refine gGo ?_;intros;(refine gM ?_;conv=>whnf);have e1:nextV l p n=0:=by simp only [nextV,h0]
  have e2:nextP l p=p:=by simp only [nextP,h0]
  rw [e1,e2];exact retH rfl (.refl _) rfl rfl rfl ⟨rfl,rfl,trivial⟩
 ·have hlt:p<l.length:=by omega
  have h0:l[p]?=some l[p]:=List.getElem?_eq_getElem hlt;have hx:(intRows .i64 l)[((p:Int)+1-1).toNat]?=some [.int .i64 l[p]]:=by
   rw [show ((p:Int)+1-1).toNat=p by omega];exact intRows_get hlt
  (refine g ?_;intros);(refine gPC (mod_spec l[p] n hn) ?_;conv=>whnf);refine gGo ?_;(refine gM ?_;conv=>whnf);have e1:nextV l p n=modK l[p] n:=by simp only [nextV,h0]
  have e2:nextP l p=p+1:=by simp only [nextP,h0]
  rw [e1,e2];exact retH rfl (.refl _) rfl rfl rfl ⟨rfl,rfl,trivial⟩
set_option maxHeartbeats 2000000 in
theorem word_spec (l:List Int) (p:Nat) (ws:List Str) (hw:ws≠[]) (hn:ws.length≤4611686018427387904) (hp:p≤l.length):∃ s,s∈ws∧Spec Tryz.prog 25 [.bp 0 0,.sl (strRows ws) false] [(0,diceB l p)] (.str s) [(0,diceB l (nextP l p))]:=by
 have hwl:=strRows_len ws;have hpos:0<ws.length:=List.length_pos_iff.2 hw;have hr:=nextV_range l p (n:=(ws.length:Int)) (by omega);have sp:=next_spec l p ws.length (by omega) hp;obtain ⟨i,hi⟩:=Int.eq_ofNat_of_zero_le hr.1;rw [hi] at sp hr;have hlt:i<ws.length:=by omega
 rw [←hwl] at sp;refine ⟨ws[i],List.getElem_mem hlt,?_⟩;refine gEn env Tryz.func25 fun Γ hN hK hML=>?_;refine gGo ?_;intros;(refine gCA [(0,0)] [] [] (sp) ?_;conv=>whnf);refine gGo ?_;refine rowAt_of (strRows_get hlt) ?_;(conv=>whnf);refine gGo ?_;(refine gM ?_;conv=>whnf);exact retH rfl (.refl _) rfl rfl rfl ⟨rfl,rfl,trivial⟩
def fineB (s:Str):Bool:=decide (s.length≤1024)&&Lib.validD s
def cellB (c:Cell):Bool:=fineB c.text&&!(c.null&&decide (c.text≠[]))
def rowsN (t:Table):Nat:=match t.cols with | []=>0 | c::_=>c.cells.length
def badCol (t:Table) (c:Column):Bool:=!fineB c.name||decide (c.cells.length≠rowsN t)||!c.cells.all cellB
def headB (t:Table):Bool:=decide (0≤t.id∧t.id≤1073741824)&&fineB t.name&&decide (t.cols.length≤64)&&decide (rowsN t≤4096)
def validB (t:Table):Bool:=headB t&&!t.cols.any (badCol t)
def ixFrom {α:Type}(p:α→Bool):List α→Nat→Int
 | [],_=>-1
 | x::l,k=>if p x=true then k else ixFrom p l (k+1)
theorem ixFrom_nonneg {α:Type}(p:α→Bool):∀ (l:List α) (k:Nat),0≤ixFrom p l k↔l.any p=true
 | [],k=>by simp [ixFrom]
 | x::l,k=>by
  simp only [ixFrom,List.any_cons];by_cases h:p x=true
  ·simp [h]
  ·simp [h,ixFrom_nonneg p l (k+1)]
set_option maxHeartbeats 1000000 in
theorem textValid_spec (s:Str):Spec Tryz.prog 134 [.str s] [] (.bool (Lib.validD s)) []:=by
 refine gEn env Tryz.func134 fun Γ hN hK hML=>?_;refine gGo ?_;(refine gPC (utf8_spec s) ?_;conv=>whnf);exact gR
set_option maxHeartbeats 1000000 in
theorem fine_spec (s:Str):Spec Tryz.prog 82 [.str s] [] (.bool (fineB s)) []:=by
 refine gEn env Tryz.func82 fun Γ hN hK hML=>?_;refine gT (fun hb=>?_) fun hb=>?_
 ·refine gGo ?_;intros;(refine gPC (textValid_spec s) ?_;conv=>whnf);refine gGr ?_;exact ret0 rfl (congrArg V.bool (by simp [fineB,show s.length≤1024 by omega])) rfl
 ·refine gGr ?_;intros;exact ret0 rfl (congrArg V.bool (by simp [fineB,show ¬ s.length≤1024 by omega])) rfl
set_option maxHeartbeats 1000000 in
theorem validCell_spec (c:Cell):Spec Tryz.prog 87 [.agg c.row] [] (.bool (cellB c)) []:=by
 have sp:=fine_spec c.text;refine gEn env Tryz.func87 fun Γ hN hK hML=>?_;cases h1:fineB c.text with
 | false =>
  rw [h1] at sp;refine g ?_;refine gGr ?_;exact ret0 rfl (congrArg V.bool (by simp [cellB,h1])) rfl
 | true =>
  rw [h1] at sp;cases h2:c.null with
  | false =>
   refine g ?_;rw [h2];(conv=>whnf);refine gGr ?_;exact ret0 rfl (congrArg V.bool (by simp [cellB,h1,h2])) rfl
  | true =>
   refine g ?_;rw [h2];(conv=>whnf);refine gT (fun hb=>?_) fun hb=>?_
   ·refine gGr ?_;exact ret0 rfl (congrArg V.bool (by simp [cellB,h1,h2];exact hb)) rfl
   ·refine gGr ?_;exact ret0 rfl (congrArg V.bool (by simp [cellB,h1,h2];simpa using hb)) rfl
set_option maxHeartbeats 1000000 in
theorem every_spec (l:List Cell):Spec Tryz.prog 86 [.sl (cellRows l) false,.fn 87 []] [] (.bool (l.all cellB)) []:=by
 have hl:=cellRows_len l;refine gEn env Tryz.func86 fun Γ hN hK hML=>?_;refine gGo ?_;intros;refine W.loopG (fun n st=>∃ k:Nat,k≤l.length∧l.all cellB=(l.drop k).all cellB∧n=l.length-k∧st=⟨[(1,.fn 87 []),(7,.sl (cellRows l) false),(8,.int .i64 (cellRows l).length),(9,.int .i64 k)],[],[]⟩)
  l.length _ ⟨0,Nat.zero_le _,by simp,by omega,rfl⟩ ⟨[],[],[],.mq .nil⟩ ?_
 rintro n st ⟨k,hk,hall,rfl,rfl⟩;refine gT (fun hb=>?_) fun hb=>?_
 ·have hlt:k<l.length:=by omega
  have hget:=cellRows_get hlt;have sp:=validCell_spec l[k];rw [List.drop_eq_getElem_cons hlt,List.all_cons] at hall;generalize l[k]=c at *;refine g ?_;cases h1:cellB c with
  | false =>
   rw [h1] at sp hall;refine g ?_;refine gGr ?_;exact ret0 rfl (congrArg V.bool (by rw [hall];rfl)) rfl
  | true =>
   rw [h1] at sp hall;refine g ?_;refine ⟨_,_,?_,⟨k+1,by omega,by rw [hall];rfl,rfl,rfl⟩,⟨[],[],[],.mq .nil⟩⟩;omega
 ·have hke:k=l.length:=by omega
  rw [hke,List.drop_length] at hall;refine gGr ?_;exact ret0 rfl (congrArg V.bool (by rw [hall];rfl)) rfl
set_option maxHeartbeats 1000000 in
theorem rows_spec (t:Table):Spec Tryz.prog 83 [.agg t.row] [] (.int .i64 (rowsN t)) []:=by
  have hl:=colRows_len t.cols;refine gEn env Tryz.func83 fun Γ hN hK hML=>?_;refine gT (fun hb=>?_) fun hb=>?_
  · have hn : rowsN t = 0 := by
      have h0:t.cols=[]:=List.length_eq_zero_iff.1 (by omega);simp only [rowsN,h0]
    rw [hn];exact gR
  · have hc : ∃ c r, t.cols = c::r := by
      cases he:t.cols with
      | nil => have h0 : t.cols.length = 0 := by rw [he];rfl
               omega
      | cons c r=>exact ⟨c,r,rfl⟩
    obtain ⟨c,r,he⟩:=hc;have hn:rowsN t=c.cells.length:=by simp only [rowsN,he]
    have hget:(colRows t.cols)[0]?=some c.row:=by rw [he];rfl
    have hcl:=cellRows_len c.cells;rw [hn];refine g ?_;refine gGr ?_;intros;exact ret0 rfl (by rw [←hcl];rfl) rfl
set_option maxHeartbeats 1000000 in
theorem rows3_spec (t:Table):Spec Tryz.prog 27 [.agg t.row] [] (.int .i64 (rowsN t)) []:=by
  have hl:=colRows_len t.cols;refine gEn env Tryz.func27 fun Γ hN hK hML=>?_;refine gT (fun hb=>?_) fun hb=>?_
  · have hn : rowsN t = 0 := by
      have h0:t.cols=[]:=List.length_eq_zero_iff.1 (by omega);simp only [rowsN,h0]
    rw [hn];exact gR
  · have hc : ∃ c r, t.cols = c::r := by
      cases he:t.cols with
      | nil => have h0 : t.cols.length = 0 := by rw [he];rfl
               omega
      | cons c r=>exact ⟨c,r,rfl⟩
    obtain ⟨c,r,he⟩:=hc;have hn:rowsN t=c.cells.length:=by simp only [rowsN,he]
    have hget:(colRows t.cols)[0]?=some c.row:=by rw [he];rfl
    have hcl:=cellRows_len c.cells;rw [hn];refine g ?_;refine gGr ?_;intros;exact ret0 rfl (by rw [←hcl];rfl) rfl
set_option maxHeartbeats 2000000 in
theorem badCol_spec (t:Table) (c:Column):Spec Tryz.prog 85 [.agg c.row,.ro t.row 0] [] (.bool (badCol t c)) []:=by
 have hcl:=cellRows_len c.cells;have sp1:=fine_spec c.name;have sp2:=rows_spec t;have sp3:=every_spec c.cells;refine gEn env Tryz.func85 fun Γ hN hK hML=>?_;cases h1:fineB c.name with
 | false =>
  rw [h1] at sp1;refine g ?_;refine gGr ?_;exact ret0 rfl (congrArg V.bool (by simp [badCol,h1])) rfl
 | true =>
  rw [h1] at sp1;refine gT (fun hb=>?_) fun hb=>?_
  ·have hne:c.cells.length≠rowsN t:=by omega
   refine gGr ?_;intros;exact ret0 rfl (congrArg V.bool (by simp [badCol,hne])) rfl
  ·have hne:c.cells.length=rowsN t:=by omega
   cases h3:c.cells.all cellB with
   | false =>
    rw [h3] at sp3;refine g ?_;refine gGr ?_;intros;exact ret0 rfl (congrArg V.bool (by simp only [badCol,h3];simp)) rfl
   | true =>
    rw [h3] at sp3;refine g ?_;refine gGr ?_;intros;exact ret0 rfl (congrArg V.bool (by simp only [badCol,h3,h1,hne];simp)) rfl
set_option maxHeartbeats 2000000 in
theorem indexCol_spec (t:Table) (l:List Column):Spec Tryz.prog 135 [.sl (colRows l) false,.fn 85 [.ro t.row 0]] [] (.int .i64 (ixFrom (badCol t) l 0)) []:=by
 have hrl:(colRows l).length=l.length:=by simp [colRows]
 refine gEn env Tryz.func135 fun Γ hN hK hML=>?_;refine gGo ?_;intros;refine W.loopG (fun n st=>∃ k:Nat,k≤l.length∧ixFrom (badCol t) l 0=ixFrom (badCol t) (l.drop k) k∧n=l.length-k∧st=⟨[(0,.sl (colRows l) false),(1,.fn 85 [.ro t.row 0]),(7,.int .i64 (colRows l).length),(8,.int .i64 k)],[],[]⟩)
  l.length _ ⟨0,by omega,rfl,by omega,rfl⟩ ⟨[],[],[],.mq .nil⟩ ?_
 rintro n st ⟨k,hk,hix,rfl,rfl⟩;refine gT (fun hb=>?_) fun hb=>?_
 ·have hlt:k<l.length:=by omega
  have hx:(colRows l)[k]?=some (l[k]).row:=by simp [colRows,hlt]
  have sp:=badCol_spec t l[k];rw [List.drop_eq_getElem_cons hlt] at hix;generalize l[k]=x at *;simp only [ixFrom] at hix;refine g ?_;cases hb2:(badCol t) x with
  | true =>
   rw [hb2] at sp hix;refine g ?_;refine gGr ?_;exact ret0 rfl (congrArg (V.int .i64) (by rw [hix];rfl)) rfl
  | false =>
   rw [hb2] at sp hix;refine g ?_;refine ⟨_,_,?_,⟨k+1,by omega,?_,rfl,rfl⟩,⟨[],[],[],.mq .nil⟩⟩
   ·omega
   ·rw [hix];rfl
 ·have hke:k=l.length:=by omega
  rw [hke,List.drop_length] at hix;refine gGr ?_;exact ret0 rfl (congrArg (V.int .i64) (by rw [hix];rfl)) rfl
set_option maxHeartbeats 2000000 in
theorem containsCol_spec (t:Table) (l:List Column):Spec Tryz.prog 84 [.sl (colRows l) false,.fn 85 [.ro t.row 0]] [] (.bool (l.any (badCol t))) []:=by
 have hn:=ixFrom_nonneg (badCol t) l 0;refine gEn env Tryz.func84 fun Γ hN hK hML=>?_;refine gGo ?_;(refine gPC (indexCol_spec t l) ?_;conv=>whnf);refine gGo ?_;refine boolRes_keep ?_;(conv=>whnf);refine gGr ?_;exact ret0 rfl (congrArg V.bool (by rw [Bool.eq_iff_iff];simp only [decide_eq_true_eq];exact hn)) rfl
set_option maxHeartbeats 4000000 in
theorem valid_spec (t:Table):Spec Tryz.prog 39 [.agg t.row] [] (.bool (validB t)) []:=by
 have hcl:=colRows_len t.cols;have sp1:=fine_spec t.name;have sp2:=rows_spec t;have sp3:=containsCol_spec t t.cols;refine gEn env Tryz.func39 fun Γ hN hK hML=>?_;refine gT (fun hb=>?_) fun hb=>?_
 ·refine gGr ?_;exact ret0 rfl (congrArg V.bool (by simp [validB,headB];omega)) rfl
 refine gT (fun hb=>?_) fun hb=>?_
 ·refine gGr ?_;exact ret0 rfl (congrArg V.bool (by simp [validB,headB];omega)) rfl
 have e1:0≤t.id∧t.id≤1073741824:=by omega
 refine gGo ?_;cases h1:fineB t.name with
 | false =>
  rw [h1] at sp1;refine g ?_;refine gGr ?_;exact ret0 rfl (congrArg V.bool (by simp [validB,headB,h1])) rfl
 | true =>
  rw [h1] at sp1;refine gT (fun hb=>?_) fun hb=>?_
  ·refine gGr ?_;intros;exact ret0 rfl (congrArg V.bool (by simp [validB,headB,show ¬ t.cols.length≤64 by omega])) rfl
  have e2:t.cols.length≤64:=by omega
  refine gGo ?_;intros;(refine gPC (sp2) ?_;conv=>whnf);refine gGo ?_;refine boolRes_split (fun hb=>?_) (fun hb=>?_)<;>conv=>whnf
  ·refine gGr ?_;exact ret0 rfl (congrArg V.bool (by simp [validB,headB,show ¬ rowsN t≤4096 by omega])) rfl
  have e3:rowsN t≤4096:=by omega
  have hv:validB t=!t.cols.any (badCol t):=by simp [validB,headB,e1,h1,e2,e3]
  refine gD rfl ?_;refine gF ?_;(conv=>whnf);refine gA ?_;refine W.leG (mp:=[]) (bo:=[1]) (st':=⟨[(1,.ro t.row 0)],[],[]⟩)
   (LeG.mk' rfl rfl rfl ⟨⟨_,.bp 1 0 3 t.row none rfl rfl (by simp) (.inr rfl),rfl⟩,trivial⟩ .nil rfl rfl (by rw [hK];rfl)) ?_
  refine g ?_;refine gGr ?_;exact ret0 rfl (congrArg V.bool (by rw [hv])) rfl
set_option maxHeartbeats 1000000 in
theorem valid2_spec (s:Str):Spec Tryz.prog 136 [.str s] [] (.bool (Lib.validD s)) []:=by
 refine gEn env Tryz.func136 fun Γ hN hK hML=>?_;refine gGo ?_;(refine gPC (utf8_spec s) ?_;conv=>whnf);exact gR
set_option maxHeartbeats 1000000 in
theorem name3_spec (s:Str):Spec Tryz.prog 88 [.str s] [] (.bool (fineB s)) []:=by
 have sp:=valid2_spec s;refine gEn env Tryz.func88 fun Γ hN hK hML=>?_;cases h1:Lib.validD s with
 | false =>
  rw [h1] at sp;refine g ?_;refine gGr ?_;exact ret0 rfl (congrArg V.bool (by simp [fineB,h1])) rfl
 | true =>
  rw [h1] at sp;refine gT (fun hb=>?_) fun hb=>?_
  ·refine gGr ?_;intros;exact ret0 rfl (congrArg V.bool (by simp [fineB,h1];omega)) rfl
  ·refine gGr ?_;intros;exact ret0 rfl (congrArg V.bool (by simp [fineB,h1];omega)) rfl
set_option maxHeartbeats 2000000 in
theorem validCell3_spec (c:Cell):Spec Tryz.prog 89 [.agg c.row] [] (.bool (cellB c)) []:=by
 have sp:=valid2_spec c.text;refine gEn env Tryz.func89 fun Γ hN hK hML=>?_;cases h1:Lib.validD c.text with
 | false =>
  rw [h1] at sp;refine g ?_;refine gGr ?_;exact ret0 rfl (congrArg V.bool (by simp [cellB,fineB,h1])) rfl
 | true =>
  rw [h1] at sp;refine gT (fun hb=>?_) fun hb=>?_
  ·cases h2:c.null with
   | false =>
    (conv=>whnf);refine gGr ?_;intros;exact ret0 rfl (congrArg V.bool (by simp [cellB,fineB,h1,h2];omega)) rfl
   | true =>
    (conv=>whnf);refine gT (fun hb=>?_) fun hb=>?_
    ·refine gGr ?_;intros;exact ret0 rfl (congrArg V.bool (by simp [cellB,fineB,h1,h2];exact ⟨by omega,by simpa using hb⟩)) rfl
    ·refine gGr ?_;intros;exact ret0 rfl (congrArg V.bool (by simp [cellB,fineB,h1,h2];intro _;simpa using hb)) rfl
  ·refine gGr ?_;intros;exact ret0 rfl (congrArg V.bool (by simp [cellB,fineB,h1];omega)) rfl
set_option maxHeartbeats 4000000 in
theorem valid3_spec (t:Table):Spec Tryz.prog 40 [.agg t.row] [] (.bool (validB t)) []:=by
 have hcl:=colRows_len t.cols;have sp1:=name3_spec t.name;refine gEn env Tryz.func40 fun Γ hN hK hML=>?_;refine gT (fun hb=>?_) fun hb=>?_
 ·refine gGr ?_;exact ret0 rfl (congrArg V.bool (by simp [validB,headB];omega)) rfl
 refine gT (fun hb=>?_) fun hb=>?_
 ·refine gGr ?_;exact ret0 rfl (congrArg V.bool (by simp [validB,headB];omega)) rfl
 have e1:0≤t.id∧t.id≤1073741824:=by omega
 refine gGo ?_;cases h1:fineB t.name with
 | false =>
  rw [h1] at sp1;refine g ?_;refine gGr ?_;exact ret0 rfl (congrArg V.bool (by simp [validB,headB,h1])) rfl
 | true =>
  rw [h1] at sp1;refine gT (fun hb=>?_) fun hb=>?_
  ·refine gGr ?_;intros;exact ret0 rfl (congrArg V.bool (by simp [validB,headB,show ¬ t.cols.length≤64 by omega])) rfl
  have e2:t.cols.length≤64:=by omega
  refine gGo ?_;intros;refine W.loopG (fun n st=>∃ k:Nat,k≤t.cols.length∧(0<k→rowsN t≤4096)∧t.cols.any (badCol t)=(t.cols.drop k).any (badCol t)∧n=t.cols.length-k∧st=⟨[(1,.bp 1 0),(28,.sl (colRows t.cols) false),(29,.int .i64 (colRows t.cols).length),(30,.int .i64 k)],[(1,[.rows 3 [t.row] none])],[1]⟩)
   t.cols.length _ ⟨0,by omega,by omega,by simp,by omega,rfl⟩ ⟨[(1,1)],[],[],.mq (.ci 1 .nil)⟩ ?_
  rintro n st ⟨k,hk,hr4,hany,rfl,rfl⟩;refine gT (fun hb=>?_) fun hb=>?_
  ·have hlt:k<t.cols.length:=by omega
   have hget:=colRows_get hlt;rw [List.drop_eq_getElem_cons hlt,List.any_cons] at hany;have hc0:∃ c0 r,t.cols=c0::r:=by
    cases he:t.cols with
    | nil=>rw [he] at hlt;simp at hlt
    | cons c r=>exact ⟨c,r,rfl⟩
   obtain ⟨c0,r,he⟩:=hc0;have hn:rowsN t=c0.cells.length:=by simp only [rowsN,he]
   have hget0:(colRows t.cols)[0]?=some c0.row:=by rw [he];rfl
   have hcl0:=cellRows_len c0.cells;generalize hgc:t.cols[k]=c at *;have spn:=name3_spec c.name;have hclc:=cellRows_len c.cells;refine g ?_;cases h2:fineB c.name with
   | false =>
    rw [h2] at spn;have hbad:badCol t c=true:=by simp [badCol,h2]
    refine g ?_;refine gGr ?_;exact ret0 rfl (congrArg V.bool (by simp [validB,hany,hbad])) rfl
   | true =>
    rw [h2] at spn;refine gT (fun hb=>?_) fun hb=>?_
    ·refine gGr ?_;intros;exact ret0 rfl (congrArg V.bool (by
      by_cases h3:rowsN t≤4096
      ·have hbad:badCol t c=true:=by simp [badCol,show c.cells.length≠rowsN t by omega]
       simp [validB,hany,hbad]
      ·simp [validB,headB,h3])) rfl
    refine gT (fun hb=>?_) fun hb=>?_
    ·have hbad:badCol t c=true:=by simp [badCol,show c.cells.length≠rowsN t by omega]
     refine gGr ?_;intros;exact ret0 rfl (congrArg V.bool (by simp [validB,hany,hbad])) rfl
    have h3:c.cells.length=rowsN t:=by omega
    have h4:rowsN t≤4096:=by omega
    have hbad:badCol t c=!c.cells.all cellB:=by simp [badCol,h2,h3]
    refine gGo ?_;intros;refine W.loopG (fun n st=>∃ j:Nat,j≤c.cells.length∧c.cells.all cellB=(c.cells.drop j).all cellB∧n=c.cells.length-j∧st=⟨[(1,.bp 1 0),(28,.sl (colRows t.cols) false),(29,.int .i64 (colRows t.cols).length),(30,.int .i64 k),(57,.sl (cellRows c.cells) false),(58,.int .i64 (cellRows c.cells).length),(59,.int .i64 j)],[(1,[.rows 3 [t.row] none])],[1]⟩)
     c.cells.length _ ⟨0,by omega,by simp,by omega,rfl⟩ ⟨[(1,1)],[],[],.mq (.ci 1 .nil)⟩ ?_
    rintro n st ⟨j,hj,hall,rfl,rfl⟩;refine gT (fun hb=>?_) fun hb=>?_
    ·have hltj:j<c.cells.length:=by omega
     have hgetj:=cellRows_get hltj;have spc:=validCell3_spec c.cells[j];rw [List.drop_eq_getElem_cons hltj,List.all_cons] at hall;generalize c.cells[j]=x at *;refine g ?_;cases h5:cellB x with
     | false =>
      rw [h5] at spc hall;refine g ?_;refine gGr ?_;exact ret0 rfl (congrArg V.bool (by simp [validB,hany,hbad,hall])) rfl
     | true =>
      rw [h5] at spc hall;refine g ?_;refine ⟨_,_,?_,⟨j+1,by omega,by rw [hall];rfl,rfl,rfl⟩,⟨[(1,1)],[],[],.mq (.ci 1 .nil)⟩⟩;omega
    ·have hje:j=c.cells.length:=by omega
     rw [hje,List.drop_length] at hall;have hbad':badCol t c=false:=by simp [hbad,hall]
     refine gGo ?_;refine ⟨_,_,?_,⟨k+1,by omega,fun _=>h4,by rw [hany,hbad'];rfl,rfl,rfl⟩,⟨[(1,1)],[],[],.mq (.ci 1 .nil)⟩⟩;omega
  ·have hke:k=t.cols.length:=by omega
   have h4:rowsN t≤4096:=by
    by_cases h0:0<k
    ·exact hr4 h0
    ·have h0:t.cols=[]:=List.length_eq_zero_iff.1 (by omega);simp only [rowsN,h0];omega
   rw [hke,List.drop_length] at hany;refine gGr ?_;exact ret0 rfl (congrArg V.bool (by simp [validB,headB,e1,h1,e2,h4,hany])) rfl
theorem cells_ne {N:NB}{o:Oper}{h:Nat→List Blk}{ρ:Operand→V}{t':Nat}{x y:Operand}(hop:o.op=.binOp .neq 65 x y t') (c d:Cell) (hx:ρ x=.agg c.row) (hy:ρ y=.agg d.row) (hd:dstOK N o.dst=true):GoodW Tryz.prog N o ρ h (.bool (!decide (c=d))) [] []:=by
 have h1:=aggBS_good (P:=Tryz.prog) (N:=N) (h:=h) (ρ:=ρ) (op:=.neq) hop (.inr rfl) Tryz.underlying65 (by kernel_rfl) (by kernel_rfl) (by kernel_rfl) (by kernel_rfl) rfl rfl Tryz.underlying4 Tryz.underlying9 (a:=c.text) (b:=d.text) (n:=c.null) (m:=d.null) hx hy;have e:decide (c=d)=decide (c.null=d.null∧c.text=d.text):=by
  cases c;cases d;simp
 rw [e];exact h1.toW hd
def tblRows (l:List Table):List (List V):=l.map Table.row
theorem tblRows_len (l:List Table):(tblRows l).length=l.length:=by simp [tblRows]
theorem tblRows_get {l:List Table}{i:Nat}(h:i<l.length):(tblRows l)[i]?=some l[i].row:=by simp [tblRows,h]
def Table.zero:Table:=⟨0,[],[]⟩
def findT (l:List Table) (n:Int):Option Table:=l.find? fun t=>decide (t.id=n)
end Go.Sx.Sp
