/- Paths in order, all paths as the document tells them, and the order of routes. -/
import Derived.Test.YtfigakbjegopkaaGreatDoorRtThree
import Derived.Test.YtfigakbjegopkaaGreatDoorJSix
import Derived.Test.YtfigakbjegopkaaGreatDoorJThree
import Derived.Test.YtfigakbjegopkaaGreatDoorSxFour
set_option linter.unusedVariables false
set_option linter.unusedSimpArgs false
namespace Go.Sx.Sp
open Go Go.Sx Go.Proofs Go.Sort
attribute [local irreducible] GoodW famL
theorem pthRows_get {l:List Pth}{i:Nat}(h:i<l.length):(pthRows l)[i]?=some l[i].row:=by simp [pthRows,h]
theorem pthRows_sz (l:List Pth):rowsSz (pthRows l) 2:=by
 unfold rowsSz pthRows
 intro r hr
 obtain ⟨c,_,rfl⟩:=List.mem_map.1 hr
 rfl
theorem cmpPath33_sp (a b:Pth):Spec Tryz.prog 68 [.agg a.row,.agg b.row] [] (.int .i64 (ordC a b)) []:=Spec.ofQuiet (cmpPath33_spec a b) fun u hu=>by
 simp at hu
 rcases hu with rfl | rfl<;>simp [V.sites,sitesL,Pth.row]
theorem hasC_zero {α:Type}{c:α→α→Int}{l:List α}{x:α}(h:plcC c l x l.length=0):hasC c l x=false:=by unfold hasC;rw [h]
theorem hasC_succ {α:Type}{c:α→α→Int}{l:List α}{x y:α}{q:Nat}(h:plcC c l x l.length=q+1) (hy:l[q]?=some y):hasC c l x=decide (c x y=0):=by unfold hasC;rw [h];simp only [hy]
set_option maxHeartbeats 16000000 in
theorem putPath_spec (l:List Pth) (p:Pth) (hl:l.length≤1000000000):Spec Tryz.prog 55 [.sl (pthRows l) false,.agg p.row] [] (.sl (pthRows (putZ ordC l p)) false) []:=by
 have hpl:=pthRows_len l
 have hple:=plcC_le ordC l p l.length
 refine gEn env Tryz.func55 fun Γ hN hK hML=>?_
 refine gA ?_
 (refine gE env hN (by kernel_rfl) ?_;conv=>whnf)
 (refine gGs ?_;intros)
 refine W.leG (mp:=[]) (bo:=[3]) (st':=⟨[(0,.sl (pthRows l) false),(3,.ro p.row 0)],[],[]⟩)
  (LeG.mk' rfl rfl rfl ⟨⟨_,.refl _,rfl⟩,⟨_,.bp 3 0 2 p.row none rfl rfl (by simp [Pth.row]) (.inr rfl),rfl⟩,trivial⟩ .nil rfl rfl (by rw [hK];rfl)) ?_
 refine gA ?_
 (refine gE env hN (by kernel_rfl) ?_;conv=>whnf)
 (refine gGs ?_;intros)
 refine W.cut (fun z=>z=⟨[(0,.sl (pthRows l) false),(3,.ro p.row 0),(5,.int .i64 (plcC ordC l p l.length:Nat))],[],[]⟩) ?_ ?_
 ·(refine gGo ?_;intros)
  refine W.loopG (fun m st=>∃ i:Nat,i≤l.length∧plcC ordC l p l.length=plcC ordC l p i∧m=i∧st=⟨[(0,.sl (pthRows l) false),(3,.ro p.row 0),(5,.int .i64 (i:Nat))],[],[]⟩)
   l.length _ ⟨l.length,by omega,rfl,rfl,rfl⟩ ⟨[],[],[],LeG.mk' rfl rfl rfl (by rw [←hpl];exact (by repeat' (first | exact trivial | exact ⟨_,.refl _,rfl⟩ | apply And.intro))) .nil rfl rfl (by rw [hK];rfl)⟩ ?_
  rintro i st ⟨_,hi,hpe,rfl,rfl⟩
  cases i with
  | zero =>
   have h0:plcC ordC l p 0=0:=rfl
   rw [hpe,h0]
   (refine gGo ?_;intros)
   exact ⟨_,rfl,.le (mp:=[]) (bo:=[]) (LeG.mq .nil)⟩
  | succ q =>
   have hq:q<l.length:=by omega
   have hg:=pthRows_get hq
   have hst:plcC ordC l p (q+1)=if ordC p l[q]<0 then plcC ordC l p q else q+1:=by
    rw [plcC,List.getElem?_eq_getElem hq]
   have spC:=cmpPath33_sp p l[q]
   generalize l[q]=y at *
   (refine gGo ?_;intros)
   refine rowAt_of (r:=y.row) (by rw [show (((q+1:Nat):Int)-1).toNat=q by omega];exact hg) ?_
   conv=>whnf
   (refine gGo ?_;intros)
   (refine gPC (spC) ?_;conv=>whnf)
   (refine gGo ?_;intros)
   by_cases hc:ordC p y<0
   ·rw [if_pos hc] at hst
    (refine gGo ?_;intros)
    refine ⟨q,_,by omega,⟨q,by omega,by rw [hpe,hst],rfl,rfl⟩,[],[],[],LeG.mk' rfl rfl rfl (by rw [show (((q+1:Nat):Int)-1)=(q:Nat) by omega];exact (by repeat' (first | exact trivial | exact ⟨_,.refl _,rfl⟩ | apply And.intro))) .nil rfl rfl (by rw [hK];rfl)⟩
   ·rw [if_neg hc] at hst
    rw [hpe,hst]
    (refine gGo ?_;intros)
    exact ⟨_,rfl,.le (mp:=[]) (bo:=[]) (LeG.mq .nil)⟩
 ·rintro z rfl
  have hins:insC ordC l p=l.take (plcC ordC l p l.length)++p::l.drop (plcC ordC l p l.length):=rfl
  unfold putZ
  rw [hins]
  cases hplq:plcC ordC l p l.length with
  | zero =>
   rw [hasC_zero hplq,if_neg (by decide)]
   have hs1:List.drop (Int.toNat 0) (List.take (((0:Nat):Int)).toNat (pthRows l))=pthRows (l.take (0)):=by
    rw [Int.toNat_natCast]
    unfold pthRows
    rw [←List.map_take];rfl
   have hs2:List.drop (((0:Nat):Int)).toNat (List.take (((pthRows l).length:Nat):Int).toNat (pthRows l))=pthRows (l.drop (0)):=by
    rw [Int.toNat_natCast,Int.toNat_natCast,List.take_length]
    unfold pthRows
    rw [←List.map_drop]
   have hAl:(l.take (0)).length=0:=by rw [List.length_take];omega
   have hBl:(l.drop (0)).length=l.length-(0):=by rw [List.length_drop]
   (refine gGo ?_;intros)
   refine And.intro (pthRows_sz _) ?_
   rw [hs1]
   generalize l.take (0)=A at *
   generalize hB:l.drop (0)=B at *
   have hA2:=pthRows_len A
   have hB2:=pthRows_len B
   conv=>whnf
   (refine gGo ?_;intros)
   refine ⟨pthRows_sz _,fitN (n:=(pthRows A).length) (b:=32) (by omega) (by omega),?_⟩
   refine Or.inl ?_
   conv=>whnf
   (refine gGo ?_;intros)
   refine ⟨⟨rowsSz_cons rfl rowsSz_nil,rfl⟩,fitN (n:=(pthRows A).length+1) (b:=32) (by omega) (by omega),.inl ⟨rfl,rfl,?_⟩⟩
   conv=>whnf
   (refine gGo ?_;intros)
   refine And.intro (pthRows_sz _) ?_
   rw [hs2]
   conv=>whnf
   (refine gGo ?_;intros)
   refine ⟨⟨pthRows_sz _,by simp⟩,fitN (n:=(pthRows A).length+1+(pthRows B).length) (b:=32) (by omega) (by omega),.inl ⟨rfl,rfl,?_⟩⟩
   conv=>whnf
   (refine gGo ?_;intros)
   have hrn:((pthRows A++[p.row])++pthRows B)=pthRows (A++p::B):=by simp [pthRows]
   refine W.leG (mp:=[]) (bo:=[38]) (st':=⟨[(4,.sl (pthRows (A++p::B)) false)],[],[]⟩)
    (LeG.mk' rfl rfl rfl (by rw [←hrn];exact ⟨⟨_,Lent.whole rfl rfl (by simp;omega) rfl (by first | exact .inl rfl | exact .inr rfl),rfl⟩,trivial⟩) .nil rfl rfl (by rw [hK];rfl)) ?_
   (refine gM ?_;conv=>whnf)
   exact ret0 rfl rfl rfl
  | succ q =>
   rw [hplq] at hple
   have hq:q<l.length:=by omega
   have hg:=pthRows_get hq
   have hhas:=hasC_succ hplq (List.getElem?_eq_getElem hq)
   have spC:=cmpPath33_sp p l[q]
   generalize l[q]=y at *
   refine gA ?_
   refine gA ?_
   (refine gE env hN (by kernel_rfl) ?_;conv=>whnf)
   (refine gGs ?_;intros)
   refine rowAt_of (r:=y.row) (by rw [show (((q+1:Nat):Int)-1).toNat=q by omega];exact hg) ?_
   conv=>whnf
   (refine gGs ?_;intros)
   (refine gPC (spC) ?_;conv=>whnf)
   (refine gGs ?_;intros)
   by_cases hc:ordC p y=0
   ·rw [decide_eq_true hc] at hhas
    rw [hhas,if_pos rfl]
    (refine gGo ?_;intros)
    (refine gGr ?_;intros)
    exact ret0 rfl rfl rfl
   ·rw [decide_eq_false hc] at hhas
    rw [hhas,if_neg (by decide)]
    (refine gGs ?_;intros)
    refine gD rfl ?_
    refine gF ?_
    conv=>whnf
    have hs1:List.drop (Int.toNat 0) (List.take ((((q+1):Nat):Int)).toNat (pthRows l))=pthRows (l.take ((q+1))):=by
     rw [Int.toNat_natCast]
     unfold pthRows
     rw [←List.map_take];rfl
    have hs2:List.drop ((((q+1):Nat):Int)).toNat (List.take (((pthRows l).length:Nat):Int).toNat (pthRows l))=pthRows (l.drop ((q+1))):=by
     rw [Int.toNat_natCast,Int.toNat_natCast,List.take_length]
     unfold pthRows
     rw [←List.map_drop]
    have hAl:(l.take ((q+1))).length=(q+1):=by rw [List.length_take];omega
    have hBl:(l.drop ((q+1))).length=l.length-((q+1)):=by rw [List.length_drop]
    (refine gGo ?_;intros)
    refine And.intro (pthRows_sz _) ?_
    rw [hs1]
    generalize l.take ((q+1))=A at *
    generalize hB:l.drop ((q+1))=B at *
    have hA2:=pthRows_len A
    have hB2:=pthRows_len B
    conv=>whnf
    (refine gGo ?_;intros)
    refine ⟨pthRows_sz _,fitN (n:=(pthRows A).length) (b:=32) (by omega) (by omega),?_⟩
    refine Or.inl ?_
    conv=>whnf
    (refine gGo ?_;intros)
    refine ⟨⟨rowsSz_cons rfl rowsSz_nil,rfl⟩,fitN (n:=(pthRows A).length+1) (b:=32) (by omega) (by omega),.inl ⟨rfl,rfl,?_⟩⟩
    conv=>whnf
    (refine gGo ?_;intros)
    refine And.intro (pthRows_sz _) ?_
    rw [hs2]
    conv=>whnf
    (refine gGo ?_;intros)
    refine ⟨⟨pthRows_sz _,by simp⟩,fitN (n:=(pthRows A).length+1+(pthRows B).length) (b:=32) (by omega) (by omega),.inl ⟨rfl,rfl,?_⟩⟩
    conv=>whnf
    (refine gGo ?_;intros)
    have hrn:((pthRows A++[p.row])++pthRows B)=pthRows (A++p::B):=by simp [pthRows]
    refine W.leG (mp:=[]) (bo:=[38]) (st':=⟨[(4,.sl (pthRows (A++p::B)) false)],[],[]⟩)
     (LeG.mk' rfl rfl rfl (by rw [←hrn];exact ⟨⟨_,Lent.whole rfl rfl (by simp;omega) rfl (by first | exact .inl rfl | exact .inr rfl),rfl⟩,trivial⟩) .nil rfl rfl (by rw [hK];rfl)) ?_
    (refine gM ?_;conv=>whnf)
    exact ret0 rfl rfl rfl
set_option maxHeartbeats 8000000 in
theorem samePath_spec (a b:Pth):Spec Tryz.prog 28 [.agg a.row,.agg b.row] [] (.bool (decide (a=b))) []:=by
 have hla:=stpRows_len a.steps
 have hlb:=stpRows_len b.steps
 have hiff:a=b↔a.start=b.start∧a.steps=b.steps:=by cases a;cases b;simp
 refine gEn env Tryz.func28 fun Γ hN hK hML=>?_
 refine gA ?_
 (refine gE env hN (by kernel_rfl) ?_;conv=>whnf)
 (refine gGs ?_;intros)
 refine W.leG (mp:=[]) (bo:=[2,3]) (st':=⟨[(2,.ro a.row 0),(3,.ro b.row 0)],[],[]⟩)
  (LeG.mk' rfl rfl rfl ⟨⟨_,.bp 2 0 2 a.row none rfl rfl (by simp [Pth.row]) (.inr rfl),rfl⟩,⟨_,.bp 3 0 2 b.row none rfl rfl (by simp [Pth.row]) (.inr rfl),rfl⟩,trivial⟩ .nil rfl rfl (by rw [hK];rfl)) ?_
 by_cases h1:a.start=b.start
 ·by_cases h2:a.steps.length=b.steps.length
  ·(refine gGo ?_;intros)
   refine W.loopG (fun m st=>∃ k:Nat,k≤a.steps.length∧a.steps.take k=b.steps.take k∧m=a.steps.length-k∧st=⟨[(3,.ro b.row 0),(22,.sl (stpRows a.steps) false),(23,.int .i64 (stpRows a.steps).length),(24,.int .i64 (k:Nat))],[],[]⟩)
    a.steps.length _ ⟨0,by omega,by simp,by omega,rfl⟩ ⟨[],[],[],.mq .nil⟩ ?_
   rintro m st ⟨k,hk,htk,rfl,rfl⟩
   (refine gGo ?_;intros)
   refine boolRes_split (fun hb=>?_) (fun hb=>?_)<;>conv=>whnf
   ·have hlt:k<a.steps.length:=by omega
    have hlt2:k<b.steps.length:=by omega
    have hg1:=stpRows_get hlt
    have hg2:=stpRows_get hlt2
    have htk2:a.steps[k]=b.steps[k]→a.steps.take (k+1)=b.steps.take (k+1):=take_snoc htk hlt hlt2
    have hneq:a.steps[k]≠b.steps[k]→¬ (a=b):=fun h1 h2=>by subst h2;exact h1 rfl
    generalize a.steps[k]=x at *
    generalize b.steps[k]=y at *
    (refine gGo ?_;intros)
    refine rowAt_of (r:=x.row) (by simpa using hg1) ?_
    conv=>whnf
    (refine gGo ?_;intros)
    refine rowAt_of (r:=y.row) (by simpa using hg2) ?_
    conv=>whnf
    (refine gGo ?_;intros)
    refine ⟨_,_,_,steps_ne rfl y x rfl rfl (by kernel_rfl),?_⟩
    by_cases e6:y=x
    ·rw [decide_eq_true e6]
     conv=>whnf
     (refine gGo ?_;intros)
     refine ⟨a.steps.length-(k+1),_,by omega,⟨k+1,by omega,htk2 e6.symm,rfl,rfl⟩,[],[6],[],LeG.mq .nil⟩
    ·rw [decide_eq_false e6,decide_eq_false (hneq fun e=>e6 e.symm)]
     conv=>whnf
     (refine gGr ?_;intros)
     exact ret0 rfl rfl rfl
   ·have hke:k=a.steps.length:=by omega
    have huu:a=b:=hiff.2 ⟨h1,by rw [hke,List.take_length,h2,List.take_length] at htk;exact htk⟩
    rw [decide_eq_true huu]
    (refine gGr ?_;intros)
    exact ret0 rfl rfl rfl
  ·rw [decide_eq_false (fun h=>h2 (by rw [h]))]
   (refine gGr ?_;intros)
   exact ret0 rfl rfl rfl
 ·rw [decide_eq_false (fun h=>h1 (by rw [h]))]
  (refine gGr ?_;intros)
  exact ret0 rfl rfl rfl
set_option maxHeartbeats 8000000 in
theorem samePaths_spec (a b:List Pth):Spec Tryz.prog 13 [.sl (pthRows a) false,.sl (pthRows b) false] [] (.bool (decide (a=b))) []:=by
 have hla:=pthRows_len a
 have hlb:=pthRows_len b
 refine gEn env Tryz.func13 fun Γ hN hK hML=>?_
 by_cases e4:a.length=b.length
 ·(refine gGo ?_;intros)
  refine W.loopG (fun n st=>∃ k:Nat,k≤a.length∧a.take k=b.take k∧n=a.length-k∧st=⟨[(1,.sl (pthRows b) false),(12,.sl (pthRows a) false),(13,.int .i64 (pthRows a).length),(14,.int .i64 (k:Nat))],[],[]⟩)
   a.length _ ⟨0,by omega,by simp,by omega,rfl⟩ ⟨[],[],[],.mq .nil⟩ ?_
  rintro n st ⟨k,hk,htk,rfl,rfl⟩
  (refine gGo ?_;intros)
  refine boolRes_split (fun hb=>?_) (fun hb=>?_)<;>conv=>whnf
  ·have hlt:k<a.length:=by omega
   have hlt2:k<b.length:=by omega
   have hg1:=pthRows_get hlt
   have hg2:=pthRows_get hlt2
   have htk2:a[k]=b[k]→a.take (k+1)=b.take (k+1):=take_snoc htk hlt hlt2
   have hneq:a[k]≠b[k]→¬ (a=b):=fun h1 h2=>by subst h2;exact h1 rfl
   have spS:=samePath_spec a[k] b[k]
   generalize a[k]=x at *
   generalize b[k]=y at *
   (refine gGo ?_;intros)
   refine rowAt_of (r:=x.row) (by simpa using hg1) ?_
   conv=>whnf
   (refine gGo ?_;intros)
   refine rowAt_of (r:=y.row) (by simpa using hg2) ?_
   conv=>whnf
   (refine gGo ?_;intros)
   (refine gPC (spS) ?_;conv=>whnf)
   by_cases e6:x=y
   ·rw [decide_eq_true e6]
    (refine gGo ?_;intros)
    refine ⟨a.length-(k+1),_,by omega,⟨k+1,by omega,htk2 e6,rfl,rfl⟩,[],[6],[],LeG.mq .nil⟩
   ·rw [decide_eq_false e6,decide_eq_false (hneq e6)]
    (refine gGo ?_;intros)
    (refine gGr ?_;intros)
    exact ret0 rfl rfl rfl
  ·have hke:k=a.length:=by omega
   have huu:a=b:=by rw [hke,List.take_length,e4,List.take_length] at htk;exact htk
   rw [decide_eq_true huu]
   (refine gGr ?_;intros)
   exact ret0 rfl rfl rfl
 ·have hne:¬ (a=b):=fun h=>e4 (by rw [h])
  rw [decide_eq_false hne]
  (refine gGo ?_;intros)
  (refine gGr ?_;intros)
  exact ret0 rfl rfl rfl
theorem walkR_zero (l:List Table) (E:List (List Int)) (dst:Int) (s:WS) (out:List Pth):walkR l E dst 0 s out=putO ordC (isPR dst s) out:=rfl
theorem walkR_succ (l:List Table) (E:List (List Int)) (dst:Int) (k:Nat) (s:WS) (out:List Pth):walkR l E dst (k+1) s out=if finR dst s=true∨1024<(putO ordC (isPR dst s) out).length then putO ordC (isPR dst s) out else (nxR l E s).foldl (fun o t=>walkR l E dst k t o) (putO ordC (isPR dst s) out):=rfl
theorem walkR_len (l:List Table) (E:List (List Int)) (dst:Int) (k:Nat) (s:WS) (out:List Pth):(walkR l E dst k s out).length≤out.length+(E.length+1) ^ k:=walkG_len E.length (nxR_len l E) k s out
def walkO (l:List Table) (E:List (List Int)) (dst:Int) (k:Nat) (s:WS) (o:List Pth) (r:List Int):List Pth:=match nxC l s r with
 | none=>o
 | some t=>walkR l E dst k t o
theorem walkO_fold (l:List Table) (E:List (List Int)) (dst:Int) (k:Nat) (s:WS) (R:List (List Int)):∀ o,(R.filterMap (nxC l s)).foldl (fun o t=>walkR l E dst k t o) o=R.foldl (walkO l E dst k s) o:=by
 induction R with
 | nil=>intro o;rfl
 | cons r R ih =>
  intro o
  rw [List.filterMap_cons,List.foldl_cons]
  unfold walkO
  cases nxC l s r with
  | none=>exact ih o
  | some t=>rw [List.foldl_cons];exact ih _
theorem walkO_len (l:List Table) (E:List (List Int)) (dst:Int) (k:Nat) (s:WS) (o:List Pth) (r:List Int):(walkO l E dst k s o r).length≤o.length+(E.length+1) ^ k:=by
 unfold walkO
 split
 ·omega
 ·exact walkR_len l E dst k _ o
set_option maxHeartbeats 32000000 in
theorem walk33_spec (l:List Table) (E:List (List Int)) (dst:Int) (steps:Nat) (h11:∀ r∈E,Rel11 r) (hst:steps≤4) (hE:E.length≤100000) :
  ∀ (k:Nat) (p:Pth) (at_:Int) (out:List Pth),p.steps.length+k=steps→out.length+(E.length+1) ^ k≤1000000000 →
  Spec Tryz.prog 27 [.sl (tblRows l) false,.sl (relRows E) false,.agg p.row,.int .i64 at_,.int .i64 dst,.int .i64 (steps:Nat),.sl (pthRows out) false] [] (.sl (pthRows (walkR l E dst k ⟨p,at_⟩ out)) false) []:=by
 intro k
 induction k with
 | zero =>
  intro p at_ out hk hb
  rw [walkR_zero]
  rw [Nat.pow_zero] at hb
  have spP:=putPath_spec out p (by omega)
  have hsl0:=stpRows_len p.steps
  refine gEn env Tryz.func27 fun Γ hN hK hML=>?_
  refine gA ?_
  (refine gE env hN (by kernel_rfl) ?_;conv=>whnf)
  (refine gGs ?_;intros)
  refine W.leG (mp:=[]) (bo:=[9]) (st':=⟨[(0,.sl (tblRows l) false),(1,.sl (relRows E) false),(3,.int .i64 at_),(4,.int .i64 dst),(5,.int .i64 (steps:Nat)),(6,.sl (pthRows (out)) false),(9,.ro p.row 0)],[],[]⟩)
   (LeG.mk' rfl rfl rfl (by repeat' (first | exact trivial | exact ⟨_,.refl _,rfl⟩ | exact ⟨_,.bp 9 0 2 p.row none rfl rfl (by simp [Pth.row]) (.inr rfl),rfl⟩ | apply And.intro)) .nil rfl rfl (by rw [hK];rfl)) ?_
  refine W.cut (fun z=>z=⟨[(0,.sl (tblRows l) false),(1,.sl (relRows E) false),(3,.int .i64 at_),(4,.int .i64 dst),(5,.int .i64 (steps:Nat)),(6,.sl (pthRows (putO ordC (isPR dst ⟨p,at_⟩) out)) false),(9,.ro p.row 0)],[],[]⟩) ?_ ?_
  ·by_cases h0:0<p.steps.length
   ·by_cases hd:dst<0
    ·by_cases hs:p.start<at_
     ·rw [show isPR dst ⟨p,at_⟩=some p from if_pos ⟨h0,.inl ⟨hd,hs⟩⟩]
      (refine gGo ?_;intros)
      (refine gPC (spP) ?_;conv=>whnf)
      (refine gGo ?_;intros)
      exact ⟨_,rfl,.le (mp:=[]) (bo:=[]) (LeG.mq .nil)⟩
     ·by_cases he:at_=dst
      ·rw [show isPR dst ⟨p,at_⟩=some p from if_pos ⟨h0,.inr he⟩]
       (refine gGo ?_;intros)
       (refine gPC (spP) ?_;conv=>whnf)
       (refine gGo ?_;intros)
       exact ⟨_,rfl,.le (mp:=[]) (bo:=[]) (LeG.mq .nil)⟩
      ·rw [show isPR dst ⟨p,at_⟩=none from if_neg (fun h=>h.2.elim (fun h=>hs h.2) he)]
       (refine gGo ?_;intros)
       exact ⟨_,rfl,.le (mp:=[]) (bo:=[]) (LeG.mq .nil)⟩
    ·by_cases he:at_=dst
     ·rw [show isPR dst ⟨p,at_⟩=some p from if_pos ⟨h0,.inr he⟩]
      (refine gGo ?_;intros)
      (refine gPC (spP) ?_;conv=>whnf)
      (refine gGo ?_;intros)
      exact ⟨_,rfl,.le (mp:=[]) (bo:=[]) (LeG.mq .nil)⟩
     ·rw [show isPR dst ⟨p,at_⟩=none from if_neg (fun h=>h.2.elim (fun h=>hd h.1) he)]
      (refine gGo ?_;intros)
      exact ⟨_,rfl,.le (mp:=[]) (bo:=[]) (LeG.mq .nil)⟩
   ·rw [show isPR dst ⟨p,at_⟩=none from if_neg (fun h=>h0 h.1)]
    (refine gGo ?_;intros)
    exact ⟨_,rfl,.le (mp:=[]) (bo:=[]) (LeG.mq .nil)⟩
  ·rintro z rfl
   generalize putO ordC (isPR dst ⟨p,at_⟩) out=O1 at *
   have hol:=pthRows_len O1
   (refine gGr ?_;intros)
   exact ret0 rfl rfl rfl
 | succ k ih =>
  intro p at_ out hk hb
  rw [walkR_succ]
  have hp1:1≤(E.length+1) ^ k:=Nat.one_le_pow _ _ (by omega)
  have hp2:(E.length+1) ^ (k+1)=E.length*(E.length+1) ^ k+(E.length+1) ^ k:=by rw [Nat.pow_succ,Nat.mul_comm,Nat.add_mul,Nat.one_mul]
  have spP:=putPath_spec out p (by omega)
  have hsl0:=stpRows_len p.steps
  refine gEn env Tryz.func27 fun Γ hN hK hML=>?_
  refine gA ?_
  (refine gE env hN (by kernel_rfl) ?_;conv=>whnf)
  (refine gGs ?_;intros)
  refine W.leG (mp:=[]) (bo:=[9]) (st':=⟨[(0,.sl (tblRows l) false),(1,.sl (relRows E) false),(3,.int .i64 at_),(4,.int .i64 dst),(5,.int .i64 (steps:Nat)),(6,.sl (pthRows (out)) false),(9,.ro p.row 0)],[],[]⟩)
   (LeG.mk' rfl rfl rfl (by repeat' (first | exact trivial | exact ⟨_,.refl _,rfl⟩ | exact ⟨_,.bp 9 0 2 p.row none rfl rfl (by simp [Pth.row]) (.inr rfl),rfl⟩ | apply And.intro)) .nil rfl rfl (by rw [hK];rfl)) ?_
  refine W.cut (fun z=>z=⟨[(0,.sl (tblRows l) false),(1,.sl (relRows E) false),(3,.int .i64 at_),(4,.int .i64 dst),(5,.int .i64 (steps:Nat)),(6,.sl (pthRows (putO ordC (isPR dst ⟨p,at_⟩) out)) false),(9,.ro p.row 0)],[],[]⟩) ?_ ?_
  ·by_cases h0:0<p.steps.length
   ·by_cases hd:dst<0
    ·by_cases hs:p.start<at_
     ·rw [show isPR dst ⟨p,at_⟩=some p from if_pos ⟨h0,.inl ⟨hd,hs⟩⟩]
      (refine gGo ?_;intros)
      (refine gPC (spP) ?_;conv=>whnf)
      (refine gGo ?_;intros)
      exact ⟨_,rfl,.le (mp:=[]) (bo:=[]) (LeG.mq .nil)⟩
     ·by_cases he:at_=dst
      ·rw [show isPR dst ⟨p,at_⟩=some p from if_pos ⟨h0,.inr he⟩]
       (refine gGo ?_;intros)
       (refine gPC (spP) ?_;conv=>whnf)
       (refine gGo ?_;intros)
       exact ⟨_,rfl,.le (mp:=[]) (bo:=[]) (LeG.mq .nil)⟩
      ·rw [show isPR dst ⟨p,at_⟩=none from if_neg (fun h=>h.2.elim (fun h=>hs h.2) he)]
       (refine gGo ?_;intros)
       exact ⟨_,rfl,.le (mp:=[]) (bo:=[]) (LeG.mq .nil)⟩
    ·by_cases he:at_=dst
     ·rw [show isPR dst ⟨p,at_⟩=some p from if_pos ⟨h0,.inr he⟩]
      (refine gGo ?_;intros)
      (refine gPC (spP) ?_;conv=>whnf)
      (refine gGo ?_;intros)
      exact ⟨_,rfl,.le (mp:=[]) (bo:=[]) (LeG.mq .nil)⟩
     ·rw [show isPR dst ⟨p,at_⟩=none from if_neg (fun h=>h.2.elim (fun h=>hd h.1) he)]
      (refine gGo ?_;intros)
      exact ⟨_,rfl,.le (mp:=[]) (bo:=[]) (LeG.mq .nil)⟩
   ·rw [show isPR dst ⟨p,at_⟩=none from if_neg (fun h=>h0 h.1)]
    (refine gGo ?_;intros)
    exact ⟨_,rfl,.le (mp:=[]) (bo:=[]) (LeG.mq .nil)⟩
  ·rintro z rfl
   have hO1:=(putO_len ordC (isPR dst ⟨p,at_⟩) out).2
   generalize putO ordC (isPR dst ⟨p,at_⟩) out=O1 at *
   have hol:=pthRows_len O1
   by_cases he:at_=dst
   ·rw [if_pos (.inl (show finR dst ⟨p,at_⟩=true from decide_eq_true he))]
    (refine gGr ?_;intros)
    exact ret0 rfl rfl rfl
   ·by_cases hM:1024<O1.length
    ·rw [if_pos (.inr hM)]
     (refine gGr ?_;intros)
     exact ret0 rfl rfl rfl
    ·have hcn:¬ (finR dst ⟨p,at_⟩=true∨1024<O1.length):=fun h=>h.elim (fun h=>he (of_decide_eq_true h)) hM
     rw [if_neg hcn]
     have hnx:nxR l E ⟨p,at_⟩=(fromL E at_).filterMap (nxC l ⟨p,at_⟩):=rfl
     rw [hnx,walkO_fold]
     clear hnx hcn
     have spR:=from_spec E at_ h11 (by omega)
     have hR11:=from_11 h11 at_
     have hRl:=from_len E at_
     generalize fromL E at_=R at *
     have hrl:=relRows_len R
     obtain ⟨O,hO⟩:∃ O:Nat→List Pth,O=fun j=>(R.take j).foldl (walkO l E dst k ⟨p,at_⟩) O1:=⟨_,rfl⟩
     have hO0:O 0=O1:=by rw [hO];rfl
     have hOs:∀ (j:Nat) (hj:j<R.length),O (j+1)=walkO l E dst k ⟨p,at_⟩ (O j) R[j]:=fun j hj=>by
      rw [hO];simp only [List.take_succ_eq_append_getElem hj,List.foldl_append,List.foldl_cons,List.foldl_nil]
     have hOe:R.foldl (walkO l E dst k ⟨p,at_⟩) O1=O R.length:=by rw [hO];simp only [List.take_length]
     have hOl:∀ j,j≤R.length→(O j).length≤O1.length+j*(E.length+1) ^ k:=fun j=>by
      induction j with
      | zero=>intro _;rw [hO0];simp
      | succ j ihj =>
       intro hj
       have h1:=walkO_len l E dst k ⟨p,at_⟩ (O j) R[j]
       have h2:=ihj (by omega)
       rw [hOs j hj,Nat.add_mul,Nat.one_mul]
       omega
     rw [hOe]
     clear hO hOe
     (refine gGo ?_;intros)
     (refine gPC (spR) ?_;conv=>whnf)
     (refine gGo ?_;intros)
     refine W.loopG (fun m st=>∃ j:Nat,j≤R.length∧m=R.length-j∧st=⟨[(0,.sl (tblRows l) false),(1,.sl (relRows E) false),(3,.int .i64 at_),(4,.int .i64 dst),(5,.int .i64 (steps:Nat)),(6,.sl (pthRows (O j)) false),(9,.ro p.row 0),(62,.sl (relRows R) false),(63,.int .i64 (relRows R).length),(64,.int .i64 (j:Nat))],[],[]⟩)
      R.length _ ⟨0,by omega,by omega,rfl⟩ ⟨[],[],[],LeG.mk' rfl rfl rfl (by rw [hO0];exact (by repeat' (first | exact trivial | exact ⟨_,.refl _,rfl⟩ | apply And.intro))) .nil rfl rfl (by rw [hK];rfl)⟩ ?_
     rintro m st ⟨j,hj,rfl,rfl⟩
     have hOj:=hOl j hj
     (refine gGo ?_;intros)
     refine boolRes_split (fun hb=>?_) (fun hb=>?_)<;>conv=>whnf
     ·have hlt:j<R.length:=by omega
      have hg:=relRows_get hlt
      have hjk:j*(E.length+1) ^ k+(E.length+1) ^ k≤E.length*(E.length+1) ^ k:=by
       have:(j+1)*(E.length+1) ^ k≤E.length*(E.length+1) ^ k:=Nat.mul_le_mul_right _ (by omega)
       rw [Nat.add_mul,Nat.one_mul] at this;exact this
      obtain ⟨r0,r1,r2,r3,r4,r5,r6,r7,r8,r9,r10,hr⟩:=rel11 (hR11 _ (List.getElem_mem hlt))
      have hos:=hOs j hlt
      rw [hr] at hg hos
      have hwo:∀ o,walkO l E dst k ⟨p,at_⟩ o [r0,r1,r2,r3,r4,r5,r6,r7,r8,r9,r10]=if ((getC l r0 r1).isSome&&(getC l r2 r3).isSome&&!decide (r2∈befT p p.steps.length))=true then walkR l E dst k ⟨⟨p.start,p.steps++[⟨r0,r1,r2,r3⟩]⟩,r2⟩ o else o:=fun o=>by
       unfold walkO nxC
       show (match (if ((getC l r0 r1).isSome&&(getC l r2 r3).isSome&&!decide (r2∈befT p p.steps.length))=true then some (⟨⟨p.start,p.steps++[⟨r0,r1,r2,r3⟩]⟩,r2⟩:WS) else none) with | none=>o | some t=>walkR l E dst k t o)=_
       by_cases hq:((getC l r0 r1).isSome&&(getC l r2 r3).isSome&&!decide (r2∈befT p p.steps.length))=true
       ·rw [if_pos hq,if_pos hq]
       ·rw [if_neg hq,if_neg hq]
      rw [hwo] at hos
      clear hwo
      have sa:=get3_spec l r0 r1
      have sb:=get3_spec l r2 r3
      have spl:=place_spec p p.steps.length r2 (Nat.le_refl _) (by omega)
      have hpm:=placeZ_mem p p.steps.length r2
      have hsl:=stpRows_len p.steps
      rw [←hsl] at spl
      generalize (getC l r0 r1).isSome=A at *
      generalize (getC l r2 r3).isSome=B at *
      generalize (getC l r0 r1).getD Column.zero=ca at *
      generalize (getC l r2 r3).getD Column.zero=cb at *
      cases A with
      | false =>
       rw [if_neg (by simp)] at hos
       (refine gGo ?_;intros)
       refine rowAt_of (by simpa using hg) ?_
       conv=>whnf
       (refine gGo ?_;intros)
       (refine gPC (sa) ?_;conv=>whnf)
       (refine gGo ?_;intros)
       (refine gPC (sb) ?_;conv=>whnf)
       (refine gGo ?_;intros)
       refine ⟨R.length-(j+1),_,by omega,⟨j+1,by omega,rfl,rfl⟩,[],[],[],LeG.mk' rfl rfl rfl (by rw [hos];exact (by repeat' (first | exact trivial | exact ⟨_,.refl _,rfl⟩ | apply And.intro))) .nil rfl rfl (by rw [hK];rfl)⟩
      | true =>
       cases B with
       | false =>
        rw [if_neg (by simp)] at hos
        (refine gGo ?_;intros)
        refine rowAt_of (by simpa using hg) ?_
        conv=>whnf
        (refine gGo ?_;intros)
        (refine gPC (sa) ?_;conv=>whnf)
        (refine gGo ?_;intros)
        (refine gPC (sb) ?_;conv=>whnf)
        (refine gGo ?_;intros)
        refine ⟨R.length-(j+1),_,by omega,⟨j+1,by omega,rfl,rfl⟩,[],[],[],LeG.mk' rfl rfl rfl (by rw [hos];exact (by repeat' (first | exact trivial | exact ⟨_,.refl _,rfl⟩ | apply And.intro))) .nil rfl rfl (by rw [hK];rfl)⟩
       | true =>
        by_cases hm:r2∈befT p p.steps.length
        ·rw [if_neg (by simp [hm])] at hos
         have hz:0≤placeZ p (stpRows p.steps).length r2:=by rw [hsl];exact hpm.2 hm
         (refine gGo ?_;intros)
         refine rowAt_of (by simpa using hg) ?_
         conv=>whnf
         (refine gGo ?_;intros)
         (refine gPC (sa) ?_;conv=>whnf)
         (refine gGo ?_;intros)
         (refine gPC (sb) ?_;conv=>whnf)
         (refine gGo ?_;intros)
         (refine gPC (spl) ?_;conv=>whnf)
         (refine gGo ?_;intros)
         refine ⟨R.length-(j+1),_,by omega,⟨j+1,by omega,rfl,rfl⟩,[],[],[],LeG.mk' rfl rfl rfl (by rw [hos];exact (by repeat' (first | exact trivial | exact ⟨_,.refl _,rfl⟩ | apply And.intro))) .nil rfl rfl (by rw [hK];rfl)⟩
        ·rw [if_pos (by simp [hm])] at hos
         have hz:¬ 0≤placeZ p (stpRows p.steps).length r2:=fun h=>hm (hpm.1 (by rw [hsl] at h;exact h))
         have hsn:stpRows (p.steps++[⟨r0,r1,r2,r3⟩])=stpRows p.steps++[[.int .i64 r0,.int .i64 r1,.int .i64 r2,.int .i64 r3]]:=by simp [stpRows,Stp.row]
         have hsp:=ih ⟨p.start,p.steps++[⟨r0,r1,r2,r3⟩]⟩ r2 (O j) (by simp;omega) (by omega)
         (refine gGo ?_;intros)
         refine rowAt_of (by simpa using hg) ?_
         conv=>whnf
         (refine gGo ?_;intros)
         (refine gPC (sa) ?_;conv=>whnf)
         (refine gGo ?_;intros)
         (refine gPC (sb) ?_;conv=>whnf)
         (refine gGo ?_;intros)
         (refine gPC (spl) ?_;conv=>whnf)
         (refine gGo ?_;intros)
         refine ⟨stpRows_sz _,fitN (n:=(stpRows p.steps).length) (b:=32) (by omega) (by omega),?_⟩
         refine Or.inl ?_
         conv=>whnf
         (refine gGo ?_;intros)
         refine ⟨⟨rowsSz_cons rfl rowsSz_nil,rfl⟩,fitN (n:=(stpRows p.steps).length+1) (b:=32) (by omega) (by omega),.inl ⟨rfl,rfl,?_⟩⟩
         conv=>whnf
         (refine gGs ?_;intros)
         refine W.leG (mp:=[(21,21)]) (bo:=[16,103]) (st':=⟨[(0,.sl (tblRows l) false),(1,.sl (relRows E) false),(3,.int .i64 at_),(4,.int .i64 dst),(5,.int .i64 (steps:Nat)),(6,.sl (pthRows (O j)) false),(9,.ro p.row 0),(62,.sl (relRows R) false),(63,.int .i64 (relRows R).length),(64,.int .i64 (j:Nat)),(16,.ro (intsV [r0,r1,r2,r3,r4,r5,r6,r7,r8,r9,r10]) 0),(21,.bp 21 0)],[(21,[.rows 2 [(Pth.mk p.start (p.steps++[⟨r0,r1,r2,r3⟩])).row] none])],[21]⟩)
          (LeG.mk' rfl rfl rfl (by repeat' (first | exact trivial | exact ⟨_,.refl _,rfl⟩ | exact ⟨_,.bp 16 0 11 (intsV [r0,r1,r2,r3,r4,r5,r6,r7,r8,r9,r10]) none rfl rfl (by simp [intsV]) (.inr rfl),rfl⟩ | apply And.intro)) (.cons 21 (b1:=.rows 2 [(Pth.mk p.start (p.steps++[⟨r0,r1,r2,r3⟩])).row] none) rfl rfl (.rows _ _ _ ⟨⟨⟨.refl _,rfl⟩,⟨(by show Lent _ _ _ (.sl (stpRows (p.steps++[⟨r0,r1,r2,r3⟩])) false);rw [hsn];exact Lent.whole rfl rfl (by simp;rfl) rfl (by first | exact .inl rfl | exact .inr rfl)),rfl⟩,trivial⟩,trivial⟩) rfl .nil) rfl rfl (by rw [hK];rfl)) ?_
         (refine gGo ?_;intros)
         (refine gPC (hsp) ?_;conv=>whnf)
         (refine gGo ?_;intros)
         refine ⟨R.length-(j+1),_,by omega,⟨j+1,by omega,rfl,rfl⟩,[],[],[],LeG.mk' rfl rfl rfl (by rw [hos];exact (by repeat' (first | exact trivial | exact ⟨_,.refl _,rfl⟩ | apply And.intro))) .nil rfl rfl (by rw [hK];rfl)⟩
     ·have hje:j=R.length:=by omega
      rw [hje]
      (refine gGr ?_;intros)
      exact ret0 rfl rfl rfl
theorem findT_id {l:List Table}{n:Int}(h:(findT l n).isSome=true):∃ t∈l,t.id=n:=by
 unfold findT at h
 obtain ⟨t,ht⟩:=Option.isSome_iff_exists.1 h
 have h1:=List.find?_some ht
 exact ⟨t,List.mem_of_find?_eq_some ht,of_decide_eq_true h1⟩
theorem listB_id {l:List Table}(h:listB l=true) (t:Table) (ht:t∈l):0≤t.id:=by
 have hv:=listB_valid h t ht
 simp only [validB,headB,Bool.and_eq_true,decide_eq_true_eq] at hv
 omega
set_option maxHeartbeats 16000000 in
theorem paths33R_spec (l:List Table) (E:List (List Int)) (from_ dst steps:Int) (h11:∀ r∈E,Rel11 r) (hE:E.length≤100):Spec Tryz.prog 12 [.sl (tblRows l) false,.sl (relRows E) false,.int .i64 from_,.int .i64 dst,.int .i64 steps] [] (.tup [.sl (pthRows (pathsM l E from_ dst steps).1) false,.int .i64 (pathsM l E from_ dst steps).2]) []:=by
 have sa:=find3_spec l from_
 have sb:=find3_spec l dst
 have sp:=validList3_spec l
 have hid:=findT_id (l:=l) (n:=dst)
 unfold pathsM routeE
 generalize hA:(findT l from_).isSome=A at *
 generalize hB:(findT l dst).isSome=B at *
 generalize (findT l from_).getD Table.zero=ta at *
 generalize (findT l dst).getD Table.zero=tb at *
 by_cases hl:listB l=true
 ·rw [hl] at sp
  rw [if_pos hl]
  by_cases hst:0≤steps∧steps≤4
  ·rw [if_pos hst]
   cases A with
   | false =>
    rw [if_neg (show ¬ (false&&B)=true by simp),if_neg (show ¬ (5:Int)=0 by decide)]
    refine gEn env Tryz.func12 fun Γ hN hK hML=>?_
    (refine gGo ?_;intros)
    (refine gPC (sp) ?_;conv=>whnf)
    (refine gGo ?_;intros)
    (refine gPC (sa) ?_;conv=>whnf)
    (refine gGo ?_;intros)
    (refine gPC (sb) ?_;conv=>whnf)
    (refine gGr ?_;intros)
    exact ret0 rfl rfl rfl
   | true =>
    cases B with
    | false =>
     rw [if_neg (show ¬ (true&&false)=true by simp),if_neg (show ¬ (5:Int)=0 by decide)]
     refine gEn env Tryz.func12 fun Γ hN hK hML=>?_
     (refine gGo ?_;intros)
     (refine gPC (sp) ?_;conv=>whnf)
     (refine gGo ?_;intros)
     (refine gPC (sa) ?_;conv=>whnf)
     (refine gGo ?_;intros)
     (refine gPC (sb) ?_;conv=>whnf)
     (refine gGr ?_;intros)
     exact ret0 rfl rfl rfl
    | true =>
     rw [if_pos (show (true&&true)=true from rfl),if_pos (show (0:Int)=0 from rfl)]
     obtain ⟨k,rfl⟩:∃ k:Nat,steps=k:=⟨steps.toNat,by omega⟩
     rw [Int.toNat_natCast]
     by_cases hft:from_=dst
     ·have hfp:findP l E from_ dst k 1024=[⟨from_,[]⟩]:=by unfold findP;rw [if_pos hft]
      rw [hfp,if_pos (by simp)]
      refine gEn env Tryz.func12 fun Γ hN hK hML=>?_
      (refine gGo ?_;intros)
      (refine gPC (sp) ?_;conv=>whnf)
      (refine gGo ?_;intros)
      (refine gPC (sa) ?_;conv=>whnf)
      (refine gGo ?_;intros)
      (refine gPC (sb) ?_;conv=>whnf)
      (refine gGl ?_;intros)
      refine Or.inl ?_
      conv=>whnf
      (refine gGo ?_;intros)
      refine W.leG (mp:=[(51,51)]) (bo:=[]) (st':=⟨[(10,.osl 51 0 0 1 1),(11,.int .i64 0)],[(51,[.rows 2 (pthRows [⟨from_,[]⟩]) none])],[51]⟩)
       (LeG.mq (.cons 51 (b1:=.rows 2 (pthRows [⟨from_,[]⟩]) none) rfl rfl (.rows _ _ _ ⟨⟨⟨.refl _,rfl⟩,⟨.norm _,rfl⟩,trivial⟩,trivial⟩) rfl .nil)) ?_
      refine W.leG (mp:=[]) (bo:=[51]) (st':=⟨[(10,.sl (pthRows [⟨from_,[]⟩]) false),(11,.int .i64 0)],[],[]⟩)
       (LeG.mk' rfl rfl rfl ⟨⟨_,Lent.whole rfl rfl rfl rfl (.inr rfl),rfl⟩,⟨_,.refl _,rfl⟩,trivial⟩ .nil rfl rfl (by rw [hK];rfl)) ?_
      (refine gM ?_;conv=>whnf)
      exact ret0 rfl rfl rfl
     ·obtain ⟨t0,ht0,hti⟩:=hid rfl
      have h0:0≤dst:=by
       rw [←hti]
       exact listB_id hl t0 ht0
      have hpw:(E.length+1) ^ k≤1000000000:=by
       have h1:(E.length+1) ^ k≤101 ^ k:=Nat.pow_le_pow_left (by omega) k
       have h2:101 ^ k≤101 ^ 4:=Nat.pow_le_pow_right (by omega) (by omega)
       have h3:(101:Nat) ^ 4≤1000000000:=by decide
       omega
      have hwf:=walkR_find (l:=l) (E:=E) (k:=k) h0 hft
      have spW:=walk33_spec l E dst k h11 (by omega) (by omega) k ⟨from_,[]⟩ from_ [] (by simp) (by simpa using hpw)
      generalize findP l E from_ dst k 1024=P at *
      generalize walkR l E dst k ⟨⟨from_,[]⟩,from_⟩ []=O at *
      have hol:=pthRows_len O
      rcases hwf with ⟨h1,h2,rfl⟩ | ⟨h1,h2⟩
      ·rw [if_pos h2]
       refine gEn env Tryz.func12 fun Γ hN hK hML=>?_
       (refine gGo ?_;intros)
       (refine gPC (sp) ?_;conv=>whnf)
       (refine gGo ?_;intros)
       (refine gPC (sa) ?_;conv=>whnf)
       (refine gGo ?_;intros)
       (refine gPC (sb) ?_;conv=>whnf)
       (refine gGo ?_;intros)
       (refine ⟨_,_,_,callG [] [] [] rfl rfl rfl (by kernel_rfl) (spW) (by refine ⟨.refl _,.refl _,Lent.row ?_,.refl _,.refl _,.refl _,Lent.norm _,trivial⟩;repeat' (first | exact trivial | exact ⟨Lent.refl _,rfl⟩ | exact ⟨Lent.norm _,rfl⟩ | apply And.intro)) rfl ⟨rfl,rfl,rfl,rfl,rfl,by repeat' (first | exact trivial | rfl | apply And.intro),rfl,rfl⟩,?_⟩;conv=>whnf)
       (refine gGr ?_;intros)
       exact ret0 rfl rfl rfl
      ·rw [if_neg (by omega)]
       refine gEn env Tryz.func12 fun Γ hN hK hML=>?_
       (refine gGo ?_;intros)
       (refine gPC (sp) ?_;conv=>whnf)
       (refine gGo ?_;intros)
       (refine gPC (sa) ?_;conv=>whnf)
       (refine gGo ?_;intros)
       (refine gPC (sb) ?_;conv=>whnf)
       (refine gGo ?_;intros)
       (refine ⟨_,_,_,callG [] [] [] rfl rfl rfl (by kernel_rfl) (spW) (by refine ⟨.refl _,.refl _,Lent.row ?_,.refl _,.refl _,.refl _,Lent.norm _,trivial⟩;repeat' (first | exact trivial | exact ⟨Lent.refl _,rfl⟩ | exact ⟨Lent.norm _,rfl⟩ | apply And.intro)) rfl ⟨rfl,rfl,rfl,rfl,rfl,by repeat' (first | exact trivial | rfl | apply And.intro),rfl,rfl⟩,?_⟩;conv=>whnf)
       (refine gGr ?_;intros)
       exact ret0 rfl rfl rfl
  ·rw [if_neg hst,if_neg (show ¬ (2:Int)=0 by decide)]
   by_cases h0:steps<0
   ·refine gEn env Tryz.func12 fun Γ hN hK hML=>?_
    (refine gGo ?_;intros)
    (refine gPC (sp) ?_;conv=>whnf)
    (refine gGr ?_;intros)
    exact ret0 rfl rfl rfl
   ·refine gEn env Tryz.func12 fun Γ hN hK hML=>?_
    (refine gGo ?_;intros)
    (refine gPC (sp) ?_;conv=>whnf)
    (refine gGr ?_;intros)
    exact ret0 rfl rfl rfl
 ·rw [if_neg hl,if_neg (show ¬ (1:Int)=0 by decide)]
  rw [Bool.not_eq_true _ |>.mp hl] at sp
  refine gEn env Tryz.func12 fun Γ hN hK hML=>?_
  (refine gGo ?_;intros)
  (refine gPC (sp) ?_;conv=>whnf)
  (refine gGr ?_;intros)
  exact ret0 rfl rfl rfl
structure Rte where
 p:Pth
 r:Rep
 deriving DecidableEq
def Rte.row (x:Rte):List V:=[.int .i64 x.p.start,.sl (stpRows x.p.steps) false,.int .i64 x.r.rows,.int .i64 x.r.lost,.int .i64 x.r.most,.sl (intRows .i64 x.r.unused) false]
def rteRows (l:List Rte):List (List V):=l.map Rte.row
theorem rteRows_len (l:List Rte):(rteRows l).length=l.length:=by simp [rteRows]
theorem rteRows_get {l:List Rte}{i:Nat}(h:i<l.length):(rteRows l)[i]?=some l[i].row:=by simp [rteRows,h]
theorem rteRows_sz (l:List Rte):rowsSz (rteRows l) 6:=by
 unfold rowsSz rteRows
 intro r hr
 obtain ⟨c,_,rfl⟩:=List.mem_map.1 hr
 rfl
def rteC (a b:Rte):Int:=orL [cmpJ a.r.lost b.r.lost,cmpJ a.r.most b.r.most,cmpJ (a.p.steps.length:Nat) (b.p.steps.length:Nat),ordC a.p b.p]
section
attribute [local instance] GQ
set_option maxHeartbeats 4000000 in
theorem cmpRteQ_spec (a b:Rte):Spec Tryz.prog 17 [.agg a.row,.agg b.row] [] (.int .i64 (rteC a b)) []:=by
 have hal:=stpRows_len a.p.steps
 have hbl:=stpRows_len b.p.steps
 have s1:=cmpQ_spec a.r.lost b.r.lost
 have s2:=cmpQ_spec a.r.most b.r.most
 have s3:=cmpQ_spec ((stpRows a.p.steps).length:Nat) ((stpRows b.p.steps).length:Nat)
 have s4:=orderQ_spec a.p b.p
 unfold rteC
 rw [←hal,←hbl]
 have s5:=orQ_spec [cmpJ a.r.lost b.r.lost,cmpJ a.r.most b.r.most,cmpJ ((stpRows a.p.steps).length:Nat) ((stpRows b.p.steps).length:Nat),ordC a.p b.p]
 generalize cmpJ a.r.lost b.r.lost=x1 at *
 generalize cmpJ a.r.most b.r.most=x2 at *
 generalize cmpJ ((stpRows a.p.steps).length:Nat) ((stpRows b.p.steps).length:Nat)=x3 at *
 generalize ordC a.p b.p=x4 at *
 refine gEn env Tryz.func17 fun Γ hN hK hML=>?_
 (refine gGo ?_;intros)
 (refine gPC (s1) ?_;conv=>whnf)
 (refine gGo ?_;intros)
 (refine gPC (s2) ?_;conv=>whnf)
 (refine gGo ?_;intros)
 (refine gPC (s3) ?_;conv=>whnf)
 (refine gGo ?_;intros)
 (refine gPC (s4) ?_;conv=>whnf)
 (refine gGo ?_;intros)
 (refine gPC (s5) ?_;conv=>whnf)
 (refine gGr ?_;intros)
 exact ret0 rfl rfl rfl
set_option maxHeartbeats 4000000 in
theorem cmpRte33Q_spec (a b:Rte):Spec Tryz.prog 32 [.agg a.row,.agg b.row] [] (.int .i64 (rteC a b)) []:=by
 have hal:=stpRows_len a.p.steps
 have hbl:=stpRows_len b.p.steps
 have s1:=number33_spec a.r.lost b.r.lost
 have s2:=number33_spec a.r.most b.r.most
 have s3:=number33_spec ((stpRows a.p.steps).length:Nat) ((stpRows b.p.steps).length:Nat)
 have s4:=cmpPath33_spec a.p b.p
 have hor:rteC a b=if cmpJ a.r.lost b.r.lost=0 then (if cmpJ a.r.most b.r.most=0 then (if cmpJ ((stpRows a.p.steps).length:Nat) ((stpRows b.p.steps).length:Nat)=0 then ordC a.p b.p else cmpJ ((stpRows a.p.steps).length:Nat) ((stpRows b.p.steps).length:Nat)) else cmpJ a.r.most b.r.most) else cmpJ a.r.lost b.r.lost:=by
  unfold rteC
  rw [←hal,←hbl]
  simp only [orL]
  by_cases h:ordC a.p b.p=0<;>simp [h]
 rw [hor]
 clear hor
 generalize cmpJ a.r.lost b.r.lost=x1 at *
 generalize cmpJ a.r.most b.r.most=x2 at *
 generalize cmpJ ((stpRows a.p.steps).length:Nat) ((stpRows b.p.steps).length:Nat)=x3 at *
 generalize ordC a.p b.p=x4 at *
 refine gEn env Tryz.func32 fun Γ hN hK hML=>?_
 (refine gGo ?_;intros)
 (refine gPC (s1) ?_;conv=>whnf)
 by_cases h1:x1=0
 ·rw [if_pos h1]
  (refine gGo ?_;intros)
  (refine gPC (s2) ?_;conv=>whnf)
  by_cases h2:x2=0
  ·rw [if_pos h2]
   (refine gGo ?_;intros)
   (refine gPC (s3) ?_;conv=>whnf)
   by_cases h3:x3=0
   ·rw [if_pos h3]
    (refine gGo ?_;intros)
    (refine gPC (s4) ?_;conv=>whnf)
    (refine gGr ?_;intros)
    exact ret0 rfl rfl rfl
   ·rw [if_neg h3]
    (refine gGr ?_;intros)
    exact ret0 rfl rfl rfl
  ·rw [if_neg h2]
   (refine gGr ?_;intros)
   exact ret0 rfl rfl rfl
 ·rw [if_neg h1]
  (refine gGr ?_;intros)
  exact ret0 rfl rfl rfl
end
theorem rte_pure (a b:Rte):∀ u∈[V.agg a.row,V.agg b.row],u.sites=[]:=fun u hu=>by
 simp at hu
 rcases hu with rfl | rfl<;>simp [V.sites,sitesL,Rte.row]
theorem cmpRte_spec (a b:Rte):Spec Tryz.prog 17 [.agg a.row,.agg b.row] [] (.int .i64 (rteC a b)) []:=Spec.ofQuiet (cmpRteQ_spec a b) (rte_pure a b)
theorem cmpRte33_spec (a b:Rte):Spec Tryz.prog 32 [.agg a.row,.agg b.row] [] (.int .i64 (rteC a b)) []:=Spec.ofQuiet (cmpRte33Q_spec a b) (rte_pure a b)
end Go.Sx.Sp
