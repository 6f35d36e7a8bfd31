/- Contracts of valid tables. -/
import Derived.Test.YthlokmbefpjmgaaGreatDoorSpOne
import Derived.Test.YthlokmbefpjmgaaGreatDoorSxFive
import Derived.Test.YthlokmbefpjmgaaGreatDoorSxTwo
import Derived.Test.YthlokmbefpjmgaaGreatDoorSxFour
set_option linter.unusedVariables false
set_option linter.unusedSimpArgs false
set_option maxHeartbeats 4000000
namespace Go.Sx.Sp
open Go Go.Sx Go.Proofs
attribute [local irreducible] aO
abbrev Str:=List UInt8
structure Cell where
 null:Bool
 text:Str
 deriving DecidableEq
structure Column where
 name:Str
 cells:List Cell
 deriving DecidableEq
structure Table where
 id:Int
 name:Str
 cols:List Column
 deriving DecidableEq
def Cell.row(c:Cell):List V:=[.bool c.null,.str c.text]
def aj(l:List Cell):List (List V):=l.map Cell.row
def Column.row(c:Column):List V:=[.str c.name,.sl (aj c.cells) false]
def ai(l:List Column):List (List V):=l.map Column.row
def Table.row(t:Table):List V:=[.int .i64 t.id,.str t.name,.sl (ai t.cols) false]
def ly(l:List Str):List (List V):=l.map fun s=>[.str s]
theorem aF(l:List Cell):(aj l).length=l.length:=by simp[aj]
theorem aB(l:List Column):(ai l).length=l.length:=by simp[ai]
theorem wT(l:List Str):(ly l).length=l.length:=by simp[ly]
theorem bu(k:IntKind)(l:List Int):(aq k l).length=l.length:=by simp[aq]
theorem aY{l:List Cell}{i:Nat}(h:i<l.length):(aj l)[i]?=some l[i].row:=by simp[aj,h]
theorem aW{l:List Column}{i:Nat}(h:i<l.length):(ai l)[i]?=some l[i].row:=by simp[ai,h]
theorem wU{l:List Str}{i:Nat}(h:i<l.length):(ly l)[i]?=some [.str l[i]]:=by simp[ly,h]
theorem dN{k:IntKind}{l:List Int}{i:Nat}(h:i<l.length):(aq k l)[i]?=some [.int k l[i]]:=by simp[aq,h]
def modK(n m:Int):Int:=if m<1 then 0 else n % m
def ed(l:List Int)(p:Nat):Blk:=.rows 2 [[.sl (aq .i64 l) false,.int .i64 p]] none
def dw(l:List Int)(p:Nat)(n:Int):Int:=match l[p]? with|some x=>modK x n|none=>0
def aM(l:List Int)(p:Nat):Nat:=match l[p]? with|some _=>p+1|none=>p
theorem jX{n m:Int}:0≤modK n m∧(1≤m→modK n m<m):=by
 unfold modK;split
 ·exact⟨by omega,fun h=>by omega⟩
 ·exact⟨Int.emod_nonneg _ (by omega),fun h=>Int.emod_lt_of_pos _ (by omega)⟩
theorem bR(l:List Int)(p:Nat){n:Int}(hn:1≤n):0≤dw l p n∧dw l p n<n:=by
 unfold dw;split
 ·exact⟨jX.1,jX.2 hn⟩
 ·exact⟨by omega,by omega⟩
theorem bC{l:List Int}{p:Nat}(hp:p≤l.length):aM l p≤l.length:=by
 unfold aM;split
 ·rename_i h;have:=(List.getElem?_eq_some_iff.1 h).1;omega
 ·exact hp
theorem kR(n m:Int)(hm:m≤4611686018427387904):Spec Tryz.prog 14 [.int .i64 n,.int .i64 m] [] (.int .i64 (modK n m)) []:=by
 refine gEn env Tryz.func14 fun Γ hN hK hML=>?_;refine gT (fun hb=>?_) fun hb=>?_
 ·refine gGr ?_;exact ret0 rfl (congrArg (V.int .i64) (by simp[modK,hb])) rfl
 ·have h1:-m<n.tmod m:=by have:=Int.lt_tmod_of_pos n (show 0<m by omega);omega
  have h2:n.tmod m<m:=Int.tmod_lt_of_pos n (by omega);have h3:(n.tmod m+m).tmod m=n % m:=by
   rw[Int.tmod_eq_emod_of_nonneg (by omega),Int.add_emod_right,Int.tmod_eq_emod];split
   ·simp
   ·rw[show((m.natAbs:Nat):Int)=m by omega];rw[Int.sub_emod_right,Int.emod_emod]
  refine gGr ?_;exact ret0 rfl (congrArg (V.int .i64) (by simp[modK,hb];exact h3)) rfl
theorem zk(l:List Int):Spec Tryz.prog 7 [.sl (aq .i64 l) false] [] (.bool (decide (l.length≤500))) []:=by
 have hl:=bu .i64 l;refine gEn env Tryz.func7 fun Γ hN hK hML=>?_;refine gGo ?_;intros;refine gg ?_;(conv=>whnf);refine gGr ?_;exact ret0 rfl (congrArg V.bool (by simp;omega)) rfl
theorem Bq(l:List Int):Spec Tryz.prog 9 [.sl (aq .i64 l) false] [] (.bp 5 0) [(5,ed l 0)]:=by
 refine gEn env Tryz.func9 fun Γ hN hK hML=>?_;refine gGo ?_;(refine gM ?_;conv=>whnf);exact retH rfl (.refl _) rfl rfl rfl ⟨rfl,rfl,trivial⟩
theorem dl(l:List Int)(p:Nat)(n:Int)(hn:n≤4611686018427387904)(hp:p≤l.length):Spec Tryz.prog 13 [.bp 0 0,.int .i64 n] [(0,ed l p)] (.int .i64 (dw l p n)) [(0,ed l (aM l p))]:=by
 have hl:=bu .i64 l;refine gEn env Tryz.func13 fun Γ hN hK hML=>?_;refine gT (fun hb=>?_) fun hb=>?_
 ·have h0:l[p]?=none:=List.getElem?_eq_none (by omega);refine gGo ?_;intros;(refine gM ?_;conv=>whnf);have e1:dw l p n=0:=by simp only[dw,h0]
  have e2:aM l p=p:=by simp only[aM,h0]
  rw[e1,e2];exact retH rfl (.refl _) rfl rfl rfl ⟨rfl,rfl,trivial⟩
 ·have hlt:p<l.length:=by omega
  have h0:l[p]?=some l[p]:=List.getElem?_eq_getElem hlt;have hx:(aq .i64 l)[((p:Int)+1-1).toNat]?=some [.int .i64 l[p]]:=by
   rw[show((p:Int)+1-1).toNat=p by omega];exact dN hlt
  (refine g ?_;intros);(refine gPC (kR l[p] n hn) ?_;conv=>whnf);refine gGo ?_;(refine gM ?_;conv=>whnf);have e1:dw l p n=modK l[p] n:=by simp only[dw,h0]
  have e2:aM l p=p+1:=by simp only[aM,h0]
  rw[e1,e2];exact retH rfl (.refl _) rfl rfl rfl ⟨rfl,rfl,trivial⟩
theorem t1(l:List Int)(p:Nat)(ws:List Str)(hw:ws≠[])(hn:ws.length≤4611686018427387904)(hp:p≤l.length):∃s,s∈ws∧Spec Tryz.prog 25 [.bp 0 0,.sl (ly ws) false] [(0,ed l p)] (.str s) [(0,ed l (aM l p))]:=by
 have hwl:=wT ws;have hpos:0<ws.length:=List.length_pos_iff.2 hw;have hr:=bR l p (n:=(ws.length:Int)) (by omega);have sp:=dl l p ws.length (by omega) hp;obtain⟨i,hi⟩:=Int.eq_ofNat_of_zero_le hr.1;rw[hi] at sp hr;have hlt:i<ws.length:=by omega
 rw[←hwl] at sp;refine⟨ws[i],List.getElem_mem hlt,?_⟩;refine gEn env Tryz.func25 fun Γ hN hK hML=>?_;refine gGo ?_;intros;(refine gCA [(0,0)] [] [] (sp) ?_;conv=>whnf);refine gGo ?_;refine al (wU hlt) ?_;(conv=>whnf);refine gGo ?_;(refine gM ?_;conv=>whnf);exact retH rfl (.refl _) rfl rfl rfl ⟨rfl,rfl,trivial⟩
def dJ(s:Str):Bool:=decide (s.length≤1024)&&Lib.validD s
def dO(c:Cell):Bool:=dJ c.text&&!(c.null&&decide (c.text≠[]))
def ab(t:Table):Nat:=match t.cols with | []=>0|c::_=>c.cells.length
def bN(t:Table)(c:Column):Bool:=!dJ c.name ||decide (c.cells.length≠ab t)||!c.cells.all dO
def eg(t:Table):Bool:=decide (0≤t.id∧t.id≤1073741824)&&dJ t.name&&decide (t.cols.length≤64)&&decide (ab t≤4096)
def aR(t:Table):Bool:=eg t&&!t.cols.any (bN t)
def bD{α:Type}(p:α→Bool):List α→Nat→Int
 | [],_=>-1
 |x::l,k=>if p x=true then k else bD p l (k+1)
theorem eh{α:Type}(p:α→Bool):∀(l:List α) (k:Nat),0≤bD p l k↔l.any p=true
 | [],k=>by simp[bD]
 |x::l,k=>by
  simp only[bD,List.any_cons];by_cases h:p x=true
  ·simp[h]
  ·simp[h,eh p l (k+1)]
theorem rm(s:Str):Spec Tryz.prog 134 [.str s] [] (.bool (Lib.validD s)) []:=by
 refine gEn env Tryz.func134 fun Γ hN hK hML=>?_;refine gGo ?_;(refine gPC (tZ s) ?_;conv=>whnf);exact gR
theorem oE(s:Str):Spec Tryz.prog 82 [.str s] [] (.bool (dJ s)) []:=by
 refine gEn env Tryz.func82 fun Γ hN hK hML=>?_;refine gT (fun hb=>?_) fun hb=>?_
 ·refine gGo ?_;intros;(refine gPC (rm s) ?_;conv=>whnf);refine gGr ?_;exact ret0 rfl (congrArg V.bool (by simp[dJ,show s.length≤1024 by omega])) rfl
 ·refine gGr ?_;intros;exact ret0 rfl (congrArg V.bool (by simp[dJ,show ¬s.length≤1024 by omega])) rfl
theorem rn(c:Cell):Spec Tryz.prog 87 [.agg c.row] [] (.bool (dO c)) []:=by
 have sp:=oE c.text;refine gEn env Tryz.func87 fun Γ hN hK hML=>?_;cases h1:dJ c.text with
 |false =>
  rw[h1] at sp;refine g ?_;refine gGr ?_;exact ret0 rfl (congrArg V.bool (by simp[dO,h1])) rfl
 |true =>
  rw[h1] at sp;cases h2:c.null with
  |false =>
   refine g ?_;rw[h2];(conv=>whnf);refine gGr ?_;exact ret0 rfl (congrArg V.bool (by simp[dO,h1,h2])) rfl
  |true =>
   refine g ?_;rw[h2];(conv=>whnf);refine gT (fun hb=>?_) fun hb=>?_
   ·refine gGr ?_;exact ret0 rfl (congrArg V.bool (by simp[dO,h1,h2];exact hb)) rfl
   ·refine gGr ?_;exact ret0 rfl (congrArg V.bool (by simp[dO,h1,h2];simpa using hb)) rfl
theorem zl(l:List Cell):Spec Tryz.prog 86 [.sl (aj l) false,.fn 87 []] [] (.bool (l.all dO)) []:=by
 have hl:=aF l;refine gEn env Tryz.func86 fun Γ hN hK hML=>?_;refine gGo ?_;intros;refine W.loopG (fun n st=>∃k:Nat,k≤l.length∧l.all dO=(l.drop k).all dO∧n=l.length-k∧st=⟨[(1,.fn 87 []),(7,.sl (aj l) false),(8,.int .i64 (aj l).length),(9,.int .i64 k)],[],[]⟩)
  l.length _ ⟨0,Nat.zero_le _,by simp,by omega,rfl⟩ ⟨[],[],[],.mq .nil⟩ ?_
 rintro n st ⟨k,hk,hall,rfl,rfl⟩;refine gT (fun hb=>?_) fun hb=>?_
 ·have hlt:k<l.length:=by omega
  have hget:=aY hlt;have sp:=rn l[k];rw[List.drop_eq_getElem_cons hlt,List.all_cons] at hall;generalize l[k]=c at *;refine g ?_;cases h1:dO c with
  |false =>
   rw[h1] at sp hall;refine g ?_;refine gGr ?_;exact ret0 rfl (congrArg V.bool (by rw[hall];rfl)) rfl
  |true =>
   rw[h1] at sp hall;refine g ?_;refine⟨_,_,?_,⟨k+1,by omega,by rw[hall];rfl,rfl,rfl⟩,⟨[],[],[],.mq .nil⟩⟩;omega
 ·have hke:k=l.length:=by omega
  rw[hke,List.drop_length] at hall;refine gGr ?_;exact ret0 rfl (congrArg V.bool (by rw[hall];rfl)) rfl
theorem jm (t:Table):Spec Tryz.prog 83 [.agg t.row] [] (.int .i64 (ab t)) []:=by
  have hl:=aB t.cols;refine gEn env Tryz.func83 fun Γ hN hK hML=>?_;refine gT (fun hb=>?_) fun hb=>?_
  · have hn : ab t = 0 := by
      have h0:t.cols=[]:=List.length_eq_zero_iff.1 (by omega);simp only [ab,h0]
    rw [hn];exact gR
  · have hc : ∃ c r, t.cols = c::r := by
      cases he:t.cols with
      | nil => have h0 : t.cols.length = 0 := by rw [he];rfl
               omega
      | cons c r=>exact ⟨c,r,rfl⟩
    obtain ⟨c,r,he⟩:=hc;have hn:ab t=c.cells.length:=by simp only [ab,he]
    have hget:(ai t.cols)[0]?=some c.row:=by rw [he];rfl
    have hcl:=aF c.cells;rw [hn];refine g ?_;refine gGr ?_;intros;exact ret0 rfl (by rw [←hcl];rfl) rfl
theorem dP (t:Table):Spec Tryz.prog 27 [.agg t.row] [] (.int .i64 (ab t)) []:=by
  have hl:=aB t.cols;refine gEn env Tryz.func27 fun Γ hN hK hML=>?_;refine gT (fun hb=>?_) fun hb=>?_
  · have hn : ab t = 0 := by
      have h0:t.cols=[]:=List.length_eq_zero_iff.1 (by omega);simp only [ab,h0]
    rw [hn];exact gR
  · have hc : ∃ c r, t.cols = c::r := by
      cases he:t.cols with
      | nil => have h0 : t.cols.length = 0 := by rw [he];rfl
               omega
      | cons c r=>exact ⟨c,r,rfl⟩
    obtain ⟨c,r,he⟩:=hc;have hn:ab t=c.cells.length:=by simp only [ab,he]
    have hget:(ai t.cols)[0]?=some c.row:=by rw [he];rfl
    have hcl:=aF c.cells;rw [hn];refine g ?_;refine gGr ?_;intros;exact ret0 rfl (by rw [←hcl];rfl) rfl
theorem wV(t:Table)(c:Column):Spec Tryz.prog 85 [.agg c.row,.ro t.row 0] [] (.bool (bN t c)) []:=by
 have hcl:=aF c.cells;have sp1:=oE c.name;have sp2:=jm t;have sp3:=zl c.cells;refine gEn env Tryz.func85 fun Γ hN hK hML=>?_;cases h1:dJ c.name with
 |false =>
  rw[h1] at sp1;refine g ?_;refine gGr ?_;exact ret0 rfl (congrArg V.bool (by simp[bN,h1])) rfl
 |true =>
  rw[h1] at sp1;refine gT (fun hb=>?_) fun hb=>?_
  ·have hne:c.cells.length≠ab t:=by omega
   refine gGr ?_;intros;exact ret0 rfl (congrArg V.bool (by simp[bN,hne])) rfl
  ·have hne:c.cells.length=ab t:=by omega
   cases h3:c.cells.all dO with
   |false =>
    rw[h3] at sp3;refine g ?_;refine gGr ?_;intros;exact ret0 rfl (congrArg V.bool (by simp only[bN,h3];simp)) rfl
   |true =>
    rw[h3] at sp3;refine g ?_;refine gGr ?_;intros;exact ret0 rfl (congrArg V.bool (by simp only[bN,h3,h1,hne];simp)) rfl
theorem tj(t:Table)(l:List Column):Spec Tryz.prog 135 [.sl (ai l) false,.fn 85 [.ro t.row 0]] [] (.int .i64 (bD (bN t) l 0)) []:=by
 have hrl:(ai l).length=l.length:=by simp[ai]
 refine gEn env Tryz.func135 fun Γ hN hK hML=>?_;refine gGo ?_;intros;refine W.loopG (fun n st=>∃k:Nat,k≤l.length∧bD (bN t) l 0=bD (bN t) (l.drop k) k∧n=l.length-k∧st=⟨[(0,.sl (ai l) false),(1,.fn 85 [.ro t.row 0]),(7,.int .i64 (ai l).length),(8,.int .i64 k)],[],[]⟩)
  l.length _ ⟨0,by omega,rfl,by omega,rfl⟩ ⟨[],[],[],.mq .nil⟩ ?_
 rintro n st ⟨k,hk,hix,rfl,rfl⟩;refine gT (fun hb=>?_) fun hb=>?_
 ·have hlt:k<l.length:=by omega
  have hx:(ai l)[k]?=some (l[k]).row:=by simp[ai,hlt]
  have sp:=wV t l[k];rw[List.drop_eq_getElem_cons hlt] at hix;generalize l[k]=x at *;simp only[bD] at hix;refine g ?_;cases hb2:(bN t) x with
  |true =>
   rw[hb2] at sp hix;refine g ?_;refine gGr ?_;exact ret0 rfl (congrArg (V.int .i64) (by rw[hix];rfl)) rfl
  |false =>
   rw[hb2] at sp hix;refine g ?_;refine⟨_,_,?_,⟨k+1,by omega,?_,rfl,rfl⟩,⟨[],[],[],.mq .nil⟩⟩
   ·omega
   ·rw[hix];rfl
 ·have hke:k=l.length:=by omega
  rw[hke,List.drop_length] at hix;refine gGr ?_;exact ret0 rfl (congrArg (V.int .i64) (by rw[hix];rfl)) rfl
theorem oF(t:Table)(l:List Column):Spec Tryz.prog 84 [.sl (ai l) false,.fn 85 [.ro t.row 0]] [] (.bool (l.any (bN t))) []:=by
 have hn:=eh (bN t) l 0;refine gEn env Tryz.func84 fun Γ hN hK hML=>?_;refine gGo ?_;(refine gPC (tj t l) ?_;conv=>whnf);refine gGo ?_;refine gg ?_;(conv=>whnf);refine gGr ?_;exact ret0 rfl (congrArg V.bool (by rw[Bool.eq_iff_iff];simp only[decide_eq_true_eq];exact hn)) rfl
theorem rp(t:Table):Spec Tryz.prog 39 [.agg t.row] [] (.bool (aR t)) []:=by
 have hcl:=aB t.cols;have sp1:=oE t.name;have sp2:=jm t;have sp3:=oF t t.cols;refine gEn env Tryz.func39 fun Γ hN hK hML=>?_;refine gT (fun hb=>?_) fun hb=>?_
 ·refine gGr ?_;exact ret0 rfl (congrArg V.bool (by simp[aR,eg];omega)) rfl
 refine gT (fun hb=>?_) fun hb=>?_
 ·refine gGr ?_;exact ret0 rfl (congrArg V.bool (by simp[aR,eg];omega)) rfl
 have e1:0≤t.id∧t.id≤1073741824:=by omega
 refine gGo ?_;cases h1:dJ t.name with
 |false =>
  rw[h1] at sp1;refine g ?_;refine gGr ?_;exact ret0 rfl (congrArg V.bool (by simp[aR,eg,h1])) rfl
 |true =>
  rw[h1] at sp1;refine gT (fun hb=>?_) fun hb=>?_
  ·refine gGr ?_;intros;exact ret0 rfl (congrArg V.bool (by simp[aR,eg,show ¬t.cols.length≤64 by omega])) rfl
  have e2:t.cols.length≤64:=by omega
  refine gGo ?_;intros;(refine gPC (sp2) ?_;conv=>whnf);refine gGo ?_;refine da (fun hb=>?_) (fun hb=>?_)<;>conv=>whnf
  ·refine gGr ?_;exact ret0 rfl (congrArg V.bool (by simp[aR,eg,show ¬ab t≤4096 by omega])) rfl
  have e3:ab t≤4096:=by omega
  have hv:aR t=!t.cols.any (bN t):=by simp[aR,eg,e1,h1,e2,e3]
  refine gD rfl ?_;refine gF ?_;(conv=>whnf);refine gA ?_;refine W.leG (mp:=[]) (bo:=[1]) (st':=⟨[(1,.ro t.row 0)],[],[]⟩)
   (LeG.mk' rfl rfl rfl ⟨⟨_,.bp 1 0 3 t.row none rfl rfl (by simp) (.inr rfl),rfl⟩,trivial⟩ .nil rfl rfl (by rw[hK];rfl)) ?_
  refine g ?_;refine gGr ?_;exact ret0 rfl (congrArg V.bool (by rw[hv])) rfl
theorem pr(s:Str):Spec Tryz.prog 136 [.str s] [] (.bool (Lib.validD s)) []:=by
 refine gEn env Tryz.func136 fun Γ hN hK hML=>?_;refine gGo ?_;(refine gPC (tZ s) ?_;conv=>whnf);exact gR
theorem rq(s:Str):Spec Tryz.prog 88 [.str s] [] (.bool (dJ s)) []:=by
 have sp:=pr s;refine gEn env Tryz.func88 fun Γ hN hK hML=>?_;cases h1:Lib.validD s with
 |false =>
  rw[h1] at sp;refine g ?_;refine gGr ?_;exact ret0 rfl (congrArg V.bool (by simp[dJ,h1])) rfl
 |true =>
  rw[h1] at sp;refine gT (fun hb=>?_) fun hb=>?_
  ·refine gGr ?_;intros;exact ret0 rfl (congrArg V.bool (by simp[dJ,h1];omega)) rfl
  ·refine gGr ?_;intros;exact ret0 rfl (congrArg V.bool (by simp[dJ,h1];omega)) rfl
theorem qm(c:Cell):Spec Tryz.prog 89 [.agg c.row] [] (.bool (dO c)) []:=by
 have sp:=pr c.text;refine gEn env Tryz.func89 fun Γ hN hK hML=>?_;cases h1:Lib.validD c.text with
 |false =>
  rw[h1] at sp;refine g ?_;refine gGr ?_;exact ret0 rfl (congrArg V.bool (by simp[dO,dJ,h1])) rfl
 |true =>
  rw[h1] at sp;refine gT (fun hb=>?_) fun hb=>?_
  ·cases h2:c.null with
   |false =>
    (conv=>whnf);refine gGr ?_;intros;exact ret0 rfl (congrArg V.bool (by simp[dO,dJ,h1,h2];omega)) rfl
   |true =>
    (conv=>whnf);refine gT (fun hb=>?_) fun hb=>?_
    ·refine gGr ?_;intros;exact ret0 rfl (congrArg V.bool (by simp[dO,dJ,h1,h2];exact⟨by omega,by simpa using hb⟩)) rfl
    ·refine gGr ?_;intros;exact ret0 rfl (congrArg V.bool (by simp[dO,dJ,h1,h2];intro _;simpa using hb)) rfl
  ·refine gGr ?_;intros;exact ret0 rfl (congrArg V.bool (by simp[dO,dJ,h1];omega)) rfl
theorem iL(t:Table):Spec Tryz.prog 40 [.agg t.row] [] (.bool (aR t)) []:=by
 have hcl:=aB t.cols;have sp1:=rq t.name;refine gEn env Tryz.func40 fun Γ hN hK hML=>?_;refine gT (fun hb=>?_) fun hb=>?_
 ·refine gGr ?_;exact ret0 rfl (congrArg V.bool (by simp[aR,eg];omega)) rfl
 refine gT (fun hb=>?_) fun hb=>?_
 ·refine gGr ?_;exact ret0 rfl (congrArg V.bool (by simp[aR,eg];omega)) rfl
 have e1:0≤t.id∧t.id≤1073741824:=by omega
 refine gGo ?_;cases h1:dJ t.name with
 |false =>
  rw[h1] at sp1;refine g ?_;refine gGr ?_;exact ret0 rfl (congrArg V.bool (by simp[aR,eg,h1])) rfl
 |true =>
  rw[h1] at sp1;refine gT (fun hb=>?_) fun hb=>?_
  ·refine gGr ?_;intros;exact ret0 rfl (congrArg V.bool (by simp[aR,eg,show ¬t.cols.length≤64 by omega])) rfl
  have e2:t.cols.length≤64:=by omega
  refine gGo ?_;intros;refine W.loopG (fun n st=>∃k:Nat,k≤t.cols.length∧(0<k→ab t≤4096)∧t.cols.any (bN t)=(t.cols.drop k).any (bN t)∧n=t.cols.length-k∧st=⟨[(1,.bp 1 0),(28,.sl (ai t.cols) false),(29,.int .i64 (ai t.cols).length),(30,.int .i64 k)],[(1,[.rows 3 [t.row] none])],[1]⟩)
   t.cols.length _ ⟨0,by omega,by omega,by simp,by omega,rfl⟩ ⟨[(1,1)],[],[],.mq (.ci 1 .nil)⟩ ?_
  rintro n st ⟨k,hk,hr4,hany,rfl,rfl⟩;refine gT (fun hb=>?_) fun hb=>?_
  ·have hlt:k<t.cols.length:=by omega
   have hget:=aW hlt;rw[List.drop_eq_getElem_cons hlt,List.any_cons] at hany;have hc0:∃c0 r,t.cols=c0::r:=by
    cases he:t.cols with
    |nil=>rw[he] at hlt;simp at hlt
    |cons c r=>exact⟨c,r,rfl⟩
   obtain⟨c0,r,he⟩:=hc0;have hn:ab t=c0.cells.length:=by simp only[ab,he]
   have hget0:(ai t.cols)[0]?=some c0.row:=by rw[he];rfl
   have hcl0:=aF c0.cells;generalize hgc:t.cols[k]=c at *;have spn:=rq c.name;have hclc:=aF c.cells;refine g ?_;cases h2:dJ c.name with
   |false =>
    rw[h2] at spn;have hbad:bN t c=true:=by simp[bN,h2]
    refine g ?_;refine gGr ?_;exact ret0 rfl (congrArg V.bool (by simp[aR,hany,hbad])) rfl
   |true =>
    rw[h2] at spn;refine gT (fun hb=>?_) fun hb=>?_
    ·refine gGr ?_;intros;exact ret0 rfl (congrArg V.bool (by
      by_cases h3:ab t≤4096
      ·have hbad:bN t c=true:=by simp[bN,show c.cells.length≠ab t by omega]
       simp[aR,hany,hbad]
      ·simp[aR,eg,h3])) rfl
    refine gT (fun hb=>?_) fun hb=>?_
    ·have hbad:bN t c=true:=by simp[bN,show c.cells.length≠ab t by omega]
     refine gGr ?_;intros;exact ret0 rfl (congrArg V.bool (by simp[aR,hany,hbad])) rfl
    have h3:c.cells.length=ab t:=by omega
    have h4:ab t≤4096:=by omega
    have hbad:bN t c=!c.cells.all dO:=by simp[bN,h2,h3]
    refine gGo ?_;intros;refine W.loopG (fun n st=>∃j:Nat,j≤c.cells.length∧c.cells.all dO=(c.cells.drop j).all dO∧n=c.cells.length-j∧st=⟨[(1,.bp 1 0),(28,.sl (ai t.cols) false),(29,.int .i64 (ai t.cols).length),(30,.int .i64 k),(57,.sl (aj c.cells) false),(58,.int .i64 (aj c.cells).length),(59,.int .i64 j)],[(1,[.rows 3 [t.row] none])],[1]⟩)
     c.cells.length _ ⟨0,by omega,by simp,by omega,rfl⟩ ⟨[(1,1)],[],[],.mq (.ci 1 .nil)⟩ ?_
    rintro n st ⟨j,hj,hall,rfl,rfl⟩;refine gT (fun hb=>?_) fun hb=>?_
    ·have hltj:j<c.cells.length:=by omega
     have hgetj:=aY hltj;have spc:=qm c.cells[j];rw[List.drop_eq_getElem_cons hltj,List.all_cons] at hall;generalize c.cells[j]=x at *;refine g ?_;cases h5:dO x with
     |false =>
      rw[h5] at spc hall;refine g ?_;refine gGr ?_;exact ret0 rfl (congrArg V.bool (by simp[aR,hany,hbad,hall])) rfl
     |true =>
      rw[h5] at spc hall;refine g ?_;refine⟨_,_,?_,⟨j+1,by omega,by rw[hall];rfl,rfl,rfl⟩,⟨[(1,1)],[],[],.mq (.ci 1 .nil)⟩⟩;omega
    ·have hje:j=c.cells.length:=by omega
     rw[hje,List.drop_length] at hall;have hbad':bN t c=false:=by simp[hbad,hall]
     refine gGo ?_;refine⟨_,_,?_,⟨k+1,by omega,fun _=>h4,by rw[hany,hbad'];rfl,rfl,rfl⟩,⟨[(1,1)],[],[],.mq (.ci 1 .nil)⟩⟩;omega
  ·have hke:k=t.cols.length:=by omega
   have h4:ab t≤4096:=by
    by_cases h0:0<k
    ·exact hr4 h0
    ·have h0:t.cols=[]:=List.length_eq_zero_iff.1 (by omega);simp only[ab,h0];omega
   rw[hke,List.drop_length] at hany;refine gGr ?_;exact ret0 rfl (congrArg V.bool (by simp[aR,eg,e1,h1,e2,h4,hany])) rfl
theorem Br{α:Type}{a b:List α}{k:Nat}(h:a.take k=b.take k)(ha:k<a.length)(hb:k<b.length)(he:a[k]=b[k]):a.take (k+1)=b.take (k+1):=by
 rw[List.take_succ_eq_append_getElem ha,List.take_succ_eq_append_getElem hb,h,he]
def aa(l:List Table):List (List V):=l.map Table.row
theorem aP(l:List Table):(aa l).length=l.length:=by simp[aa]
theorem bi{l:List Table}{i:Nat}(h:i<l.length):(aa l)[i]?=some l[i].row:=by simp[aa,h]
def Table.zero:Table:=⟨0,[],[]⟩
def bL(l:List Table)(n:Int):Option Table:=l.find? fun t=>decide (t.id=n)
theorem jY(l:List Table)(n:Int):Spec Tryz.prog 104 [.sl (aa l) false,.int .i64 n] [] (.tup [.agg ((bL l n).getD Table.zero).row,.bool (bL l n).isSome]) []:=by
 have hl:=aP l;refine gEn env Tryz.func104 fun Γ hN hK hML=>?_;refine gGo ?_;intros;refine W.loopG (fun m st=>∃k:Nat,k≤l.length∧bL l n=bL (l.drop k) n∧m=l.length-k∧st=⟨[(1,.int .i64 n),(4,.bp 4 0),(8,.sl (aa l) false),(9,.int .i64 (aa l).length),(10,.int .i64 k)],[(4,[.rows 3 [[.int .i64 0,.str [],.nils]] none])],[4]⟩)
  l.length _ ⟨0,by omega,by simp,by omega,rfl⟩ gX ?_
 rintro m st ⟨k,hk,hf,rfl,rfl⟩;refine gT (fun hb=>?_) fun hb=>?_
 ·have hlt:k<l.length:=by omega
  rw[List.drop_eq_getElem_cons hlt] at hf;have hget:=bi hlt;generalize l[k]=t at *;refine gT (fun hb=>?_) fun hb=>?_
  ·have h1:bL l n=some t:=by rw[hf];simp[bL,hb]
   refine gGr ?_;exact ret0 rfl (by rw[h1];rfl) rfl
  ·have h1:bL l n=bL (l.drop (k+1)) n:=by rw[hf];simp[bL,hb]
   refine gGo ?_;exact gZ ⟨k+1,by omega,h1,rfl,rfl⟩
 ·have hke:k=l.length:=by omega
  have h1:bL l n=none:=by rw[hf,hke,List.drop_length];rfl
  refine gGr ?_;exact ret0 rfl (by rw[h1];rfl) rfl
end Go.Sx.Sp
