/- What a delta makes of a table; the small example. -/
import Derived.Test.YthhhdpnchjnfnaaDoorDOne
import Derived.Test.YthhhdpnchjnfnaaDoorSxFour
set_option linter.unusedVariables false
set_option linter.unusedSimpArgs false
namespace Go.Sx.Sp
open Go Go.Sx Go.Proofs
attribute [local irreducible] GoodW
def badB (c:Cell):Bool:=!cellB c
def goodD (n:Int) (d:Delta):Bool:=d.add.all (fun r=>decide ((r.length:Int)=n)&&!r.any badB)&&!d.drop.any badB
set_option maxHeartbeats 1000000 in
theorem badB_spec (c:Cell):Spec Tryd.prog 58 [.agg c.row] [] (.bool (badB c)) []:=by
 have sp:=validCell_spec c
 refine gEn env Tryd.func58 fun Γ hN hK hML=>?_
 (refine gGo ?_;intros)
 (refine gPC (sp) ?_;conv=>whnf)
 (refine gGr ?_;intros)
 exact ret0 rfl rfl rfl
set_option maxHeartbeats 2000000 in
theorem indexBad_spec  (l:List Cell):Spec Tryd.prog 67 [.sl (cellRows l) false,.fn 58 []] [] (.int .i64 (ixFrom (badB) l 0)) []:=by
 have hrl:(cellRows l).length=l.length:=by simp [cellRows]
 refine gEn env Tryd.func67 fun Γ hN hK hML=>?_
 (refine gGo ?_;intros)
 refine W.loopG (fun n st=>∃ k:Nat,k≤l.length∧ixFrom (badB) l 0=ixFrom (badB) (l.drop k) k∧n=l.length-k∧st=⟨[(0,.sl (cellRows l) false),(1,.fn 58 []),(7,.int .i64 (cellRows l).length),(8,.int .i64 k)],[],[]⟩)
  l.length _ ⟨0,by omega,rfl,by omega,rfl⟩ ⟨[],[],[],.mq .nil⟩ ?_
 rintro n st ⟨k,hk,hix,rfl,rfl⟩
 (refine gGo ?_;intros)
 refine boolRes_split (fun hb=>?_) (fun hb=>?_)<;>conv=>whnf
 ·have hlt:k<l.length:=by omega
  have hx:(cellRows l)[k]?=some (l[k]).row:=by simp [cellRows,hlt]
  have sp:=badB_spec l[k]
  rw [List.drop_eq_getElem_cons hlt] at hix
  generalize l[k]=x at *
  simp only [ixFrom] at hix
  (refine gGo ?_;intros)
  refine rowAt_of hx ?_
  conv=>whnf
  (refine gGo ?_;intros)
  cases hb2:(badB) x with
  | true =>
   rw [hb2] at sp hix
   (refine gPC (sp) ?_;conv=>whnf)
   (refine gGr ?_;intros)
   exact ret0 rfl (congrArg (V.int .i64) (by rw [hix];rfl)) rfl
  | false =>
   rw [hb2] at sp hix
   (refine gPC (sp) ?_;conv=>whnf)
   (refine gGo ?_;intros)
   refine ⟨_,_,?_,⟨k+1,by omega,?_,rfl,rfl⟩,⟨[],[],[],.mq .nil⟩⟩
   ·omega
   ·rw [hix];rfl
 ·have hke:k=l.length:=by omega
  rw [hke,List.drop_length] at hix
  (refine gGr ?_;intros)
  exact ret0 rfl (congrArg (V.int .i64) (by rw [hix];rfl)) rfl
set_option maxHeartbeats 2000000 in
theorem containsBad_spec  (l:List Cell):Spec Tryd.prog 59 [.sl (cellRows l) false,.fn 58 []] [] (.bool (l.any (badB))) []:=by
 have hn:=ixFrom_nonneg (badB) l 0
 refine gEn env Tryd.func59 fun Γ hN hK hML=>?_
 (refine gGo ?_;intros)
 (refine gPC (indexBad_spec l) ?_;conv=>whnf)
 (refine gGo ?_;intros)
 refine boolRes_keep ?_
 conv=>whnf
 (refine gGr ?_;intros)
 exact ret0 rfl (congrArg V.bool (by rw [Bool.eq_iff_iff];simp only [decide_eq_true_eq];exact hn)) rfl
theorem lineRows_get {l:List (List Cell)}{j:Nat}(h:j<l.length):(lineRows l)[j]?=some [.sl (cellRows l[j]) false]:=by simp [lineRows,lineV,h]
set_option maxHeartbeats 4000000 in
theorem goodD_spec (d:Delta) (n:Int):Spec Tryd.prog 43 [.agg d.row,.int .i64 n] [] (.bool (goodD n d)) []:=by
 have hl:=lineRows_len d.add
 have spD:=containsBad_spec d.drop
 refine gEn env Tryd.func43 fun Γ hN hK hML=>?_
 (refine gGo ?_;intros)
 refine W.loopG (fun m st=>∃ j:Nat,j≤d.add.length∧d.add.all (fun r=>decide ((r.length:Int)=n)&&!r.any badB)=(d.add.drop j).all (fun r=>decide ((r.length:Int)=n)&&!r.any badB)∧m=d.add.length-j ∧
   st=⟨[(1,.int .i64 n),(2,.bp 2 0),(5,.fn 58 []),(9,.sl (lineRows d.add) false),(10,.int .i64 (lineRows d.add).length),(11,.int .i64 j)],[(2,[.rows 2 [d.row] none])],[2]⟩)
  d.add.length _ ⟨0,by omega,rfl,by omega,rfl⟩ ⟨[(2,2)],[],[],.mq (.ci 2 .nil)⟩ ?_
 rintro m st ⟨j,hj,hall,rfl,rfl⟩
 (refine gGo ?_;intros)
 refine boolRes_split (fun hb=>?_) (fun hb=>?_)<;>conv=>whnf
 ·have hlt:j<d.add.length:=by omega
  have hg:=lineRows_get hlt
  have sp:=containsBad_spec d.add[j]
  have hcl:=cellRows_len d.add[j]
  rw [List.drop_eq_getElem_cons hlt,List.all_cons] at hall
  generalize d.add[j]=r at *
  (refine gGo ?_;intros)
  refine rowAt_of (by simpa using hg) ?_
  conv=>whnf
  (refine gGo ?_;intros)
  refine boolRes_split (fun hb=>?_) (fun hb=>?_)<;>conv=>whnf
  ·have hne:¬ (r.length:Int)=n:=by omega
   (refine gGr ?_;intros)
   exact ret0 rfl (congrArg V.bool (by unfold goodD;rw [hall];simp [hne])) rfl
  ·have hne:(r.length:Int)=n:=by omega
   (refine gGo ?_;intros)
   cases hb2:r.any badB with
   | true =>
    rw [hb2] at sp
    (refine gPC (sp) ?_;conv=>whnf)
    (refine gGr ?_;intros)
    exact ret0 rfl (congrArg V.bool (by unfold goodD;rw [hall,hb2];simp)) rfl
   | false =>
    rw [hb2] at sp
    (refine gPC (sp) ?_;conv=>whnf)
    (refine gGo ?_;intros)
    refine ⟨_,_,?_,⟨j+1,by omega,by rw [hall,hb2];simp [hne],rfl,rfl⟩,⟨[(2,2)],[],[],.mq (.ci 2 .nil)⟩⟩
    omega
 ·have hje:j=d.add.length:=by omega
  rw [hje,List.drop_length] at hall
  (refine gGo ?_;intros)
  (refine gPC (spD) ?_;conv=>whnf)
  (refine gGr ?_;intros)
  exact ret0 rfl (congrArg V.bool (by unfold goodD;rw [hall];simp)) rfl
structure Keyed (es:List (Nat×V×V)) (L:List Str):Prop where
 ks:es.map (fun p=>p.2.1)=L.map V.str
 nd:L.Nodup
 vs:∀ p∈es,∃ n:Int,p.2.2=V.int .i64 n
theorem keyed_look {t:Str}:∀ (L:List Str) (es:List (Nat×V×V)),es.map (fun p=>p.2.1)=L.map V.str→(∀ p∈es,∃ n:Int,p.2.2=V.int .i64 n)→(t∈L→∃ (j b:Nat) (n:Int),mapAt (.str t) es=some (some (j,b,.int .i64 n))∧L[j]?=some t)∧(t∉L→mapAt (.str t) es=some none):=by
 intro L
 induction L with
 | nil =>
  intro es h _
  have:es=[]:=by simpa using h
  subst this
  exact ⟨fun h=>(by cases h),fun _=>rfl⟩
 | cons s L ih =>
  intro es h hv
  cases es with
  | nil=>simp at h
  | cons p es =>
   obtain ⟨b,k,v⟩:=p
   simp only [List.map_cons,List.cons.injEq] at h
   obtain ⟨hk,ht⟩:=h
   have hk:k=.str s:=hk
   subst hk
   obtain ⟨n,hn⟩:=hv _ List.mem_cons_self
   have hn:v=.int .i64 n:=hn
   subst hn
   obtain ⟨i1,i2⟩:=ih es ht (fun p hp=>hv p (List.mem_cons_of_mem _ hp))
   by_cases e:t=s
   ·subst e
    exact ⟨fun _=>⟨0,b,n,by simp [mapAt,eqKey],rfl⟩,fun h=>absurd List.mem_cons_self h⟩
   ·have he:eqKey (.str t) (.str s)=some false:=by simp [eqKey,e]
    refine ⟨fun h=>?_,fun h=>?_⟩
    ·obtain ⟨j,b',v',q1,q2⟩:=i1 (by simpa [e] using h)
     exact ⟨j+1,b',v',by simp [mapAt,he,q1],by simpa using q2⟩
    ·have:=i2 (by simp at h;exact h.2)
     simp [mapAt,he,this]
theorem Keyed.yes {es:List (Nat×V×V)}{L:List Str}(h:Keyed es L) {t:Str}(ht:t∈L):∃ (j b:Nat) (n:Int),mapAt (.str t) es=some (some (j,b,.int .i64 n))∧L[j]?=some t:=(keyed_look L es h.ks h.vs).1 ht
theorem Keyed.no {es:List (Nat×V×V)}{L:List Str}(h:Keyed es L) {t:Str}(ht:t∉L):mapAt (.str t) es=some none:=(keyed_look L es h.ks h.vs).2 ht
theorem map_eraseIdx' {α β:Type}(f:α→β):∀ (l:List α) (j:Nat),(l.eraseIdx j).map f=(l.map f).eraseIdx j
 | [],j=>by simp
 | a::l,0=>by simp
 | a::l,j+1=>by simp [map_eraseIdx' f l j]
theorem erase_at {t:Str}:∀ {L:List Str}{j:Nat},L.Nodup→L[j]?=some t→L.erase t=L.eraseIdx j
 | [],j,_,h=>by simp at h
 | s::L,0,_,h=>by simp at h;subst h;simp
 | s::L,j+1,hn,h=>by
  simp at h
  have hm:=List.mem_of_getElem? h
  have hne:s≠t:=fun e=>by subst e;exact (List.nodup_cons.1 hn).1 hm
  rw [List.erase_cons_tail (by simpa using hne),List.eraseIdx_cons_succ,erase_at (List.nodup_cons.1 hn).2 h]
theorem Keyed.erase {es:List (Nat×V×V)}{L:List Str}(h:Keyed es L) {t:Str}{j:Nat}(hj:L[j]?=some t):Keyed (es.eraseIdx j) (L.erase t):=by
 have he:=erase_at h.nd hj
 refine ⟨?_,h.nd.erase _,fun p hp=>h.vs p (List.mem_of_mem_eraseIdx hp)⟩
 rw [he,map_eraseIdx',map_eraseIdx',h.ks]
theorem Keyed.snoc {es:List (Nat×V×V)}{L:List Str}(h:Keyed es L) {t:Str}(ht:t∉L) (c:Nat) (n:Int):Keyed (es++[(c,.str t,.int .i64 n)]) (L++[t]):=by
 refine ⟨by simp [h.ks],?_,fun p hp=>?_⟩
 ·rw [List.nodup_append]
  exact ⟨h.nd,by simp,fun a ha b hb=>by simp at hb;subst hb;exact fun e=>ht (e ▸ ha)⟩
 ·rcases List.mem_append.1 hp with h1 | h1
  ·exact h.vs p h1
  ·simp at h1;subst h1;exact ⟨n,rfl⟩
theorem keyed_ix {L:List Str}(h:L.Nodup):Keyed (ixMap L) L:=by
 have:∀ (l:List Str) (k:Nat),(mapG (fun i=>.int .i64 i) k l).map (fun p=>p.2.1)=l.map V.str∧∀ p∈mapG (fun i=>.int .i64 i) k l,∃ n:Int,p.2.2=V.int .i64 n:=by
  intro l
  induction l with
  | nil=>intro k;exact ⟨rfl,fun p hp=>by simp [mapG] at hp⟩
  | cons s l ih =>
   intro k
   refine ⟨by simp [mapG,(ih (k+1)).1],fun p hp=>?_⟩
   simp only [mapG,List.mem_cons] at hp
   rcases hp with rfl | hp
   ·exact ⟨_,rfl⟩
   ·exact (ih (k+1)).2 p hp
 exact ⟨(this L 0).1,h,(this L 0).2⟩
def dropK (L:List Str):List Cell→Option (List Str)
 | []=>some L
 | c::cs=>if c.text∈L∧c.null=false then dropK (L.erase c.text) cs else none
def addK (k:Nat) (L:List Str):List (List Cell)→Option (List Str)
 | []=>some L
 | r::rs=>if keyAt k r∉L∧(r.getD k ⟨false,[]⟩).null=false then addK k (L++[keyAt k r]) rs else none
def clashD (L:List Str) (k:Nat) (d:Delta):Bool:=
 match dropK L d.drop with
 | none=>true
 | some L'=>(addK k L' d.add).isNone
set_option maxHeartbeats 8000000 in
theorem clashD_spec (L:List Str) (es:List (Nat×V×V)) (ck:Nat) (hes:Keyed es L) (k:Nat) (d:Delta) (hk:∀ r∈d.add,k<r.length):Spec Tryd.prog 44 [.omap 0 0,.int .i64 k,.agg d.row] [(0,.map es ck (some []))] (.bool (clashD L k d)) [(0,.gone)]:=by
 have hdl:=cellRows_len d.drop
 have hal:=lineRows_len d.add
 refine gEn env Tryd.func44 fun Γ hN hK hML=>?_
 (refine gGo ?_;intros)
 refine W.loopG (fun m st=>∃ (j:Nat) (L':List Str) (es':List (Nat×V×V)) (c':Nat),j≤d.drop.length∧Keyed es' L'∧dropK L d.drop=dropK L' (d.drop.drop j)∧m=d.drop.length-j ∧
   st=⟨[(0,.omap 0 0),(1,.int .i64 k),(5,.bp 5 0),(16,.sl (cellRows d.drop) false),(17,.int .i64 (cellRows d.drop).length),(18,.int .i64 j)],[(0,[.map es' c' (some [])]),(5,[.rows 2 [d.row] none])],[0,5]⟩)
  d.drop.length _ ⟨0,L,es,ck,by omega,hes,rfl,by omega,rfl⟩ ⟨[(0,0),(5,5)],[],[],.mq (.ci 0 (.ci 5 .nil))⟩ ?_
 rintro m st ⟨j,L',es',c',hj,hK',hdr,rfl,rfl⟩
 (refine gGo ?_;intros)
 refine boolRes_split (fun hb=>?_) (fun hb=>?_)<;>conv=>whnf
 ·have hlt:j<d.drop.length:=by omega
  have hg:=cellRows_get hlt
  rw [List.drop_eq_getElem_cons hlt] at hdr
  generalize d.drop[j]=c at *
  simp only [dropK] at hdr
  (refine gGo ?_;intros)
  refine rowAt_of (by simpa using hg) ?_
  conv=>whnf
  (refine gGo ?_;intros)
  refine zok_intro (by kernel_rfl) ?_
  conv=>whnf
  by_cases hm:c.text∈L'
  ·obtain ⟨i,b,v,q1,q2⟩:=hK'.yes hm
   refine ⟨_,q1,?_⟩
   conv=>whnf
   (refine gGo ?_;intros)
   cases hn:c.null with
   | true =>
    (refine gGo ?_;intros)
    have hT:clashD L k d=true:=by unfold clashD;rw [hdr,if_neg (fun h=>by rw [hn] at h;cases h.2)]
    refine W.leG (mp:=[(0,0)]) (bo:=[]) (st':=⟨[(6,.bool true)],[(0,[.gone])],[0]⟩) (LeG.mq (.gone 0 rfl rfl rfl .nil)) ?_
    (refine gM ?_;conv=>whnf)
    exact retH rfl (by rw [hT];exact .refl _) rfl rfl rfl ⟨rfl,rfl,trivial⟩
   | false =>
    (refine gGo ?_;intros)
    refine ⟨_,q1,?_⟩
    conv=>whnf
    (refine gGo ?_;intros)
    refine ⟨_,_,?_,⟨j+1,_,_,_,by omega,hK'.erase q2,by rw [hdr,if_pos ⟨hm,hn⟩],rfl,rfl⟩,⟨[(0,0),(5,5)],[],[],.mq (.ci 0 (.ci 5 .nil))⟩⟩
    omega
  ·refine ⟨_,hK'.no hm,?_⟩
   conv=>whnf
   (refine gGo ?_;intros)
   have hT:clashD L k d=true:=by unfold clashD;rw [hdr,if_neg (fun h=>hm h.1)]
   refine W.leG (mp:=[(0,0)]) (bo:=[]) (st':=⟨[(6,.bool true)],[(0,[.gone])],[0]⟩) (LeG.mq (.gone 0 rfl rfl rfl .nil)) ?_
   (refine gM ?_;conv=>whnf)
   exact retH rfl (by rw [hT];exact .refl _) rfl rfl rfl ⟨rfl,rfl,trivial⟩
 ·have hje:j=d.drop.length:=by omega
  rw [hje,List.drop_length] at hdr
  (refine gGo ?_;intros)
  refine W.loopG (fun m st=>∃ (j:Nat) (L'':List Str) (es'':List (Nat×V×V)) (c'':Nat),j≤d.add.length∧Keyed es'' L''∧addK k L' d.add=addK k L'' (d.add.drop j)∧m=d.add.length-j ∧
    st=⟨[(0,.omap 0 0),(1,.int .i64 k),(5,.bp 5 0),(40,.sl (lineRows d.add) false),(41,.int .i64 (lineRows d.add).length),(42,.int .i64 j)],[(0,[.map es'' c'' (some [])]),(5,[.rows 2 [d.row] none])],[0,5]⟩)
   d.add.length _ ⟨0,L',es',c',by omega,hK',rfl,by omega,rfl⟩ ⟨[(0,0),(5,5)],[],[],.mq (.ci 0 (.ci 5 .nil))⟩ ?_
  rintro m st ⟨j,L'',es'',c'',hj,hK2,had,rfl,rfl⟩
  (refine gGo ?_;intros)
  refine boolRes_split (fun hb=>?_) (fun hb=>?_)<;>conv=>whnf
  ·have hlt:j<d.add.length:=by omega
   have hg:=lineRows_get hlt
   have hkr:=hk _ (List.getElem_mem hlt)
   rw [List.drop_eq_getElem_cons hlt] at had
   generalize d.add[j]=r at *
   have hg2:=cellRows_get hkr
   have hka:keyAt k r=r[k].text:=by simp [keyAt,hkr]
   have hkn:r.getD k ⟨false,[]⟩=r[k]:=by simp [hkr]
   simp only [addK] at had
   rw [hka,hkn] at had
   generalize r[k]=c at *
   (refine gGo ?_;intros)
   refine rowAt_of (by simpa using hg) ?_
   conv=>whnf
   (refine gGo ?_;intros)
   refine rowAt_of (by simpa using hg2) ?_
   conv=>whnf
   (refine gGo ?_;intros)
   refine zok_intro (by kernel_rfl) ?_
   conv=>whnf
   by_cases hm:c.text∈L''
   ·obtain ⟨i,b,v,q1,q2⟩:=hK2.yes hm
    refine ⟨_,q1,?_⟩
    conv=>whnf
    (refine gGo ?_;intros)
    have hT:clashD L k d=true:=by unfold clashD;rw [hdr];simp only [dropK];rw [had,if_neg (fun h=>h.1 hm)];rfl
    refine W.leG (mp:=[(0,0)]) (bo:=[]) (st':=⟨[(6,.bool true)],[(0,[.gone])],[0]⟩) (LeG.mq (.gone 0 rfl rfl rfl .nil)) ?_
    (refine gM ?_;conv=>whnf)
    exact retH rfl (by rw [hT];exact .refl _) rfl rfl rfl ⟨rfl,rfl,trivial⟩
   ·refine ⟨_,hK2.no hm,?_⟩
    conv=>whnf
    (refine gGo ?_;intros)
    refine rowAt_of (by simpa using hg2) ?_
    conv=>whnf
    (refine gGo ?_;intros)
    cases hn:c.null with
    | true =>
     (refine gGo ?_;intros)
     have hT:clashD L k d=true:=by unfold clashD;rw [hdr];simp only [dropK];rw [had,if_neg (fun h=>by rw [hn] at h;cases h.2)];rfl
     refine W.leG (mp:=[(0,0)]) (bo:=[]) (st':=⟨[(6,.bool true)],[(0,[.gone])],[0]⟩) (LeG.mq (.gone 0 rfl rfl rfl .nil)) ?_
     (refine gM ?_;conv=>whnf)
     exact retH rfl (by rw [hT];exact .refl _) rfl rfl rfl ⟨rfl,rfl,trivial⟩
    | false =>
     (refine gGo ?_;intros)
     refine rowAt_of (by simpa using hg2) ?_
     conv=>whnf
     (refine gGo ?_;intros)
     refine ⟨_,hK2.no hm,?_⟩
     conv=>whnf
     (refine gGo ?_;intros)
     refine ⟨_,_,?_,⟨j+1,_,_,_,by omega,hK2.snoc hm _ _,by rw [had,if_pos ⟨hm,hn⟩],rfl,rfl⟩,⟨[(0,0),(5,5)],[],[],.mq (.ci 0 (.ci 5 .nil))⟩⟩
     omega
  ·have hje2:j=d.add.length:=by omega
   rw [hje2,List.drop_length] at had
   have hT:clashD L k d=false:=by unfold clashD;rw [hdr];simp only [dropK];rw [had];rfl
   (refine gGo ?_;intros)
   refine W.leG (mp:=[(0,0)]) (bo:=[]) (st':=⟨[(6,.bool false)],[(0,[.gone])],[0]⟩) (LeG.mq (.gone 0 rfl rfl rfl .nil)) ?_
   (refine gM ?_;conv=>whnf)
   exact retH rfl (by rw [hT];exact .refl _) rfl rfl rfl ⟨rfl,rfl,trivial⟩
def mayM (t:Table) (key:Int) (d:Delta):Int:=
 if validB t=true∧goodD t.cols.length d=true then
  if checkM key [t]=0 then
   if clashD (textsOf (colK t key.toNat)) key.toNat d=true then 26
   else if (rowsN t:Int)-d.drop.length+d.add.length > 4096 then 3 else 0
  else checkM key [t]
 else 1
theorem check_one {key:Int}{t:Table}(h:checkM key [t]=0):∃ k:Nat,key=k∧k<t.cols.length∧keyB (colK t k)=true:=by
 unfold checkM at h
 split at h
 ·rename_i h1
  split at h
  ·rename_i h2
   simp only [List.all_cons,List.all_nil,Bool.and_true] at h1 h2
   unfold inB at h1
   have h1:=of_decide_eq_true h1
   refine ⟨key.toNat,by omega,by omega,h2⟩
  ·simp at h
 ·simp at h
theorem valid_rows {t:Table}(h:validB t=true):rowsN t≤4096:=by
 simp only [validB,headB,Bool.and_eq_true,decide_eq_true_eq] at h;omega
set_option maxHeartbeats 8000000 in
theorem may_spec (t:Table) (key:Int) (d:Delta) (hda:d.add.length≤4294967296):Spec Tryd.prog 24 [.agg t.row,.int .i64 key,.agg d.row] [] (.int .i64 (mayM t key d)) []:=by
 have sp1:=valid_spec t
 have sp2:=goodD_spec d t.cols.length
 have sp3:=check_spec key [t]
 have sp4:=rows_spec t
 have hcl:=colRows_len t.cols
 have hdl:=cellRows_len d.drop
 have hal:=lineRows_len d.add
 refine gEn env Tryd.func24 fun Γ hN hK hML=>?_
 (refine gGo ?_;intros)
 cases hv:validB t with
 | false =>
  rw [hv] at sp1
  have hT:mayM t key d=1:=by simp [mayM,hv]
  (refine gPC (sp1) ?_;conv=>whnf)
  (refine gGr ?_;intros)
  exact ret0 rfl (by rw [hT];rfl) rfl
 | true =>
  rw [hv] at sp1
  (refine gPC (sp1) ?_;conv=>whnf)
  (refine gGo ?_;intros)
  rw [hcl]
  cases hg:goodD t.cols.length d with
  | false =>
   rw [hg] at sp2
   have hT:mayM t key d=1:=by simp [mayM,hg]
   (refine gPC (sp2) ?_;conv=>whnf)
   (refine gGr ?_;intros)
   exact ret0 rfl (by rw [hT];rfl) rfl
  | true =>
   rw [hg] at sp2
   (refine gPC (sp2) ?_;conv=>whnf)
   (refine gGo ?_;intros)
   (refine gPC (sp3) ?_;conv=>whnf)
   (refine gGo ?_;intros)
   by_cases hc:checkM key [t]=0
   ·rw [hc]
    (refine gGo ?_;intros)
    obtain ⟨k,rfl,hk,hkb⟩:=check_one hc
    obtain ⟨nA,dA⟩:=(keyB_iff _).1 hkb
    have eA:colK t k=t.cols[k].cells:=by simp [colK,hk]
    have hadd:∀ r∈d.add,k<r.length:=fun r hr=>by
     simp only [goodD,Bool.and_eq_true,List.all_eq_true] at hg
     have:=(hg.1 r hr).1
     have:=of_decide_eq_true this
     omega
    have sp5:=byKey_spec t k hk (by rw [←eA];exact dA)
    rw [←eA] at sp5
    have sp6:=clashD_spec (textsOf (colK t k)) (ixMap (textsOf (colK t k))) (textsOf (colK t k)).length (keyed_ix dA) k d hadd
    (refine gCA [] [(8,61)] [] (sp5) ?_;conv=>whnf)
    (refine gGo ?_;intros)
    cases hcd:clashD (textsOf (colK t k)) k d with
    | true =>
     rw [hcd] at sp6
     have hT:mayM t k d=26:=by simp [mayM,hv,hg,hc,hcd]
     (refine gCA [(0,61)] [] [] (sp6) ?_;conv=>whnf)
     (refine gGr ?_;intros)
     exact ret0 rfl (by rw [hT];rfl) rfl
    | false =>
     rw [hcd] at sp6
     have hrn:=valid_rows hv
     (refine gCA [(0,61)] [] [] (sp6) ?_;conv=>whnf)
     (refine gGo ?_;intros)
     (refine gPC (sp4) ?_;conv=>whnf)
     (refine gGo ?_;intros)
     refine boolRes_split (fun hb=>?_) (fun hb=>?_)<;>conv=>whnf
     ·have hT:mayM t k d=3:=by
       have h1:(rowsN t:Int)-d.drop.length+d.add.length > 4096:=by omega
       simp [mayM,hv,hg,hc,hcd,h1]
      (refine gGr ?_;intros)
      exact ret0 rfl (by rw [hT];rfl) rfl
     ·have hT:mayM t k d=0:=by
       have h1:¬ (rowsN t:Int)-d.drop.length+d.add.length > 4096:=by omega
       simp only [mayM,Int.toNat_natCast];rw [if_pos ⟨hv,hg⟩,if_pos hc,if_neg (by rw [hcd];simp),if_neg h1]
      (refine gGr ?_;intros)
      exact ret0 rfl (by rw [hT];rfl) rfl
   ·have hT:mayM t key d=checkM key [t]:=by simp [mayM,hv,hg,hc]
    (refine gGr ?_;intros)
    exact ret0 rfl (by rw [hT];rfl) rfl
set_option maxHeartbeats 2000000 in
theorem ownO_spec (t:Table) (ht:t.Few):Spec Tryd.prog 25 [.agg t.row] [] (.agg [.int .i64 t.id,.str t.name,.osl 7 0 0 (colRows t.cols).length (colRows t.cols).length]) [(7,.rows 2 (colRows t.cols) (some []))]:=by
 have hcl:=colRows_len t.cols
 have hcs:=ht.cols
 refine gEn env Tryd.func25 fun Γ hN hK hML=>?_
 (refine gGo ?_;intros)
 (refine gCA [] [(5,7)] [] (cloneCols_own (colRows t.cols) (colRows_sz _) (by rw [hcl];exact ht.cols)) ?_;conv=>whnf)
 (refine gGo ?_;intros)
 refine W.loopG (fun n st=>∃ k,k≤t.cols.length∧n=t.cols.length-k∧st=⟨[(1,.bp 1 0),(2,.bp 2 0),(10,.osl 7 0 0 (colRows t.cols).length (colRows t.cols).length),(11,.int .i64 (colRows t.cols).length),(12,.int .i64 k)],[(1,[.rows 3 [[.int .i64 t.id,.str t.name,.osl 7 0 0 (colRows t.cols).length (colRows t.cols).length]] none]),(2,[.rows 3 [[.int .i64 0,.str [],.nils]] none]),(7,[.rows 2 (colRows t.cols) (some [])])],[1,2,7]⟩)
  t.cols.length _ ⟨0,Nat.zero_le _,rfl,rfl⟩ ⟨[(1,1),(2,2),(7,7)],[],[],.mq (.ci 1 (.ci 2 (.ci 7 .nil)))⟩ ?_
 rintro n st ⟨k,hk,rfl,rfl⟩
 (refine gGo ?_;intros)
 refine boolRes_split (fun hb=>?_) (fun hb=>?_)<;>conv=>whnf
 ·have hlt:k<t.cols.length:=by omega
  have hx:=colRows_get hlt
  have hcc:=ht.cells _ (List.getElem_mem hlt)
  generalize t.cols[k]=c at *
  (refine gGo ?_;intros)
  refine rowAt_of (by simpa using hx) ?_
  conv=>whnf
  (refine gGo ?_;intros)
  (refine gPC (cloneCells (cellRows c.cells) (cellRows_sz _) (by rw [cellRows_len];exact hcc)) ?_;conv=>whnf)
  (refine gGo ?_;intros)
  refine rowAt_of (by simpa using hx) ?_
  conv=>whnf
  (refine gGo ?_;intros)
  have hset:(colRows t.cols).set (0+(k:Int).toNat) [.str c.name,.sl (cellRows c.cells) false]=colRows t.cols:=set_same (by simpa [Column.row] using hx)
  refine ⟨_,_,?_,⟨k+1,by omega,rfl,rfl⟩,[(1,1),(2,2),(7,7)],[],[],LeG.mq (.ci 1 (.ci 2 (.cons 7 rfl rfl (.refl _) (congrArg (fun r=>[Blk.rows 2 r (some [])]) hset.symm) .nil)))⟩
  omega
 ·(refine gGo ?_;intros)
  refine W.leG (mp:=[(2,2),(7,7)]) (bo:=[]) (st':=⟨[(2,.bp 2 0)],[(2,[.rows 3 [[.int .i64 t.id,.str t.name,.osl 7 0 0 (colRows t.cols).length (colRows t.cols).length]] none]),(7,[.rows 2 (colRows t.cols) (some [])])],[2,7]⟩) (LeG.mq (.ci 2 (.ci 7 .nil))) ?_
  (refine gM ?_;conv=>whnf)
  exact retH rfl (.refl _) rfl rfl rfl ⟨rfl,rfl,trivial⟩
structure KeyedB (es:List (Nat×V×V)) (L:List Str):Prop where
 ks:es.map (fun p=>p.2)=L.map fun s=>(V.str s,V.bool true)
theorem keyedB_look {t:Str}:∀ (L:List Str) (es:List (Nat×V×V)),es.map (fun p=>p.2)=L.map (fun s=>(V.str s,V.bool true))→(t∈L→∃ (j b:Nat),mapAt (.str t) es=some (some (j,b,.bool true))∧L[j]?=some t)∧(t∉L→mapAt (.str t) es=some none):=by
 intro L
 induction L with
 | nil =>
  intro es h
  have:es=[]:=by simpa using h
  subst this
  exact ⟨fun h=>(by cases h),fun _=>rfl⟩
 | cons s L ih =>
  intro es h
  cases es with
  | nil=>simp at h
  | cons p es =>
   obtain ⟨b,k,v⟩:=p
   simp only [List.map_cons,List.cons.injEq,Prod.mk.injEq] at h
   obtain ⟨⟨rfl,rfl⟩,ht⟩:=h
   obtain ⟨i1,i2⟩:=ih es ht
   by_cases e:t=s
   ·subst e
    exact ⟨fun _=>⟨0,b,by simp [mapAt,eqKey],rfl⟩,fun h=>absurd List.mem_cons_self h⟩
   ·have he:eqKey (.str t) (.str s)=some false:=by simp [eqKey,e]
    refine ⟨fun h=>?_,fun h=>?_⟩
    ·obtain ⟨j,b',q1,q2⟩:=i1 (by simpa [e] using h)
     exact ⟨j+1,b',by simp [mapAt,he,q1],by simpa using q2⟩
    ·have:=i2 (by simp at h;exact h.2)
     simp [mapAt,he,this]
theorem KeyedB.yes {es:List (Nat×V×V)}{L:List Str}(h:KeyedB es L) {t:Str}(ht:t∈L):∃ (j b:Nat),mapAt (.str t) es=some (some (j,b,.bool true))∧L[j]?=some t:=(keyedB_look L es h.ks).1 ht
theorem KeyedB.no {es:List (Nat×V×V)}{L:List Str}(h:KeyedB es L) {t:Str}(ht:t∉L):mapAt (.str t) es=some none:=(keyedB_look L es h.ks).2 ht
theorem KeyedB.set {es:List (Nat×V×V)}{L:List Str}(h:KeyedB es L) {t:Str}{j:Nat}(hj:L[j]?=some t) (b:Nat):KeyedB (es.set j (b,.str t,.bool true)) L:=by
 refine ⟨?_⟩
 rw [List.map_set,h.ks]
 exact set_same (by simp [hj])
theorem KeyedB.snoc {es:List (Nat×V×V)}{L:List Str}(h:KeyedB es L) (t:Str) (c:Nat):KeyedB (es++[(c,.str t,.bool true)]) (L++[t]):=⟨by simp [h.ks]⟩
def keepB (t:Table) (k:Nat) (d:Delta) (i:Nat):Bool:=decide ((cellI (colK t k) i).text∉textsOf d.drop)
def keptA (t:Table) (k:Nat) (d:Delta) (c:Column) (n:Nat):List Cell:=((List.range n).filter (keepB t k d)).map (cellI c.cells)
def newA (d:Delta) (j m:Nat):List Cell:=(d.add.take m).map fun r=>cellI r j
def colA (t:Table) (k:Nat) (d:Delta) (j:Nat) (c:Column):Column:=⟨c.name,keptA t k d c c.cells.length++d.add.map fun r=>cellI r j⟩
def colsA (t:Table) (k:Nat) (d:Delta) (j:Nat):List Column:=(List.range j).map fun j=>colA t k d j (t.cols.getD j ⟨[],[]⟩)
def applyD (t:Table) (k:Nat) (d:Delta):Table:=⟨t.id,t.name,colsA t k d t.cols.length⟩
def applyM (t:Table) (key:Int) (d:Delta):Table×Int:=if mayM t key d=0 then (applyD t key.toNat d,0) else (Table.zero,mayM t key d)
theorem keptA_snoc (t:Table) (k:Nat) (d:Delta) (c:Column) (n:Nat):keptA t k d c (n+1)=if keepB t k d n=true then keptA t k d c n++[cellI c.cells n] else keptA t k d c n:=by
 unfold keptA
 rw [List.range_succ,List.filter_append]
 by_cases h:keepB t k d n=true<;>simp [h]
theorem keptA_len (t:Table) (k:Nat) (d:Delta) (c:Column) (n:Nat):(keptA t k d c n).length≤n:=by
 have:=filt_len (cellI c.cells) (keepB t k d) (List.range n)
 simpa [keptA] using this
theorem newA_snoc {d:Delta}{m:Nat}(j:Nat) (h:m<d.add.length):newA d j (m+1)=newA d j m++[cellI d.add[m] j]:=by
 unfold newA;rw [List.take_succ_eq_append_getElem h,List.map_append];rfl
theorem colsA_len (t:Table) (k:Nat) (d:Delta) (j:Nat):(colsA t k d j).length=j:=by simp [colsA]
theorem mayM_ok {t:Table}{key:Int}{d:Delta}(h:mayM t key d=0):validB t=true∧goodD t.cols.length d=true∧checkM key [t]=0∧clashD (textsOf (colK t key.toNat)) key.toNat d=false∧(rowsN t:Int)-d.drop.length+d.add.length≤4096:=by
 unfold mayM at h
 split at h
 ·rename_i h1
  split at h
  ·rename_i h2
   split at h
   ·simp at h
   ·rename_i h3
    split at h
    ·simp at h
    ·rename_i h4
     exact ⟨h1.1,h1.2,h2,by simpa using h3,by omega⟩
  ·exact absurd h (by assumption)
 ·simp at h
set_option maxHeartbeats 16000000 in
theorem apply_spec (t:Table) (key:Int) (d:Delta) (hdd:d.drop.length≤4294967296) (hda:d.add.length≤4294967296):Spec Tryd.prog 11 [.agg t.row,.int .i64 key,.agg d.row] [] (.tup [.agg (applyM t key d).1.row,.int .i64 (applyM t key d).2]) []:=by
 have sp1:=may_spec t key d hda
 refine gEn env Tryd.func11 fun Γ hN hK hML=>?_
 by_cases hmay:mayM t key d=0
 ·have hof:applyM t key d=(applyD t key.toNat d,0):=by simp [applyM,hmay]
  rw [hof]
  rw [hmay] at sp1
  obtain ⟨hv,hg,hc,hcd,hcnt⟩:=mayM_ok hmay
  obtain ⟨k,rfl,hk,hkb⟩:=check_one hc
  simp only [Int.toNat_natCast] at *
  have hkk:colK t k=t.cols[k].cells:=by simp [colK,hk]
  have lA:(colK t k).length=rowsN t:=by rw [hkk];exact valid_cells hv _ (List.getElem_mem hk)
  have few:=validB_few hv
  have hrn:=valid_rows hv
  have hdl:=cellRows_len d.drop
  have hal:=lineRows_len d.add
  have htl:=colRows_len t.cols
  have hadd:∀ r∈d.add,r.length=t.cols.length:=fun r hr=>by
   simp only [goodD,Bool.and_eq_true,List.all_eq_true] at hg
   have:=(hg.1 r hr).1
   have:=of_decide_eq_true this
   omega
  have spO:=ownO_spec t few
  rw [htl] at spO
  (refine gGo ?_;intros)
  (refine gPC (sp1) ?_;conv=>whnf)
  (refine gGo ?_;intros)
  refine W.loopG (fun m st=>∃ (j:Nat) (L:List Str) (es:List (Nat×V×V)) (c:Nat),j≤d.drop.length∧KeyedB es L∧(∀ s,s∈L↔s∈textsOf (d.drop.take j))∧m=d.drop.length-j ∧
    st=⟨[(1,.int .i64 k),(3,.bp 3 0),(5,.bp 5 0),(6,.bp 6 0),(9,.omap 27 0),(29,.sl (cellRows d.drop) false),(30,.int .i64 (cellRows d.drop).length),(31,.int .i64 j)],[(3,[.rows 3 [t.row] none]),(5,[.rows 2 [d.row] none]),(6,[.rows 3 [[.int .i64 0,.str [],.nils]] none]),(27,[.map es c (some [])])],[3,5,6,27]⟩)
   d.drop.length _ ⟨0,[],[],0,by omega,⟨rfl⟩,by simp [textsOf],by omega,rfl⟩ ⟨[(3,3),(5,5),(6,6),(27,27)],[],[],.mq (.ci 3 (.ci 5 (.ci 6 (.ci 27 .nil))))⟩ ?_
  rintro m st ⟨j,L,es,c,hj,hK0,hL,rfl,rfl⟩
  (refine gGo ?_;intros)
  refine boolRes_split (fun hb=>?_) (fun hb=>?_)<;>conv=>whnf
  ·have hlt:j<d.drop.length:=by omega
   have hgg:=cellRows_get hlt
   have hts:textsOf (d.drop.take (j+1))=textsOf (d.drop.take j)++[d.drop[j].text]:=by
    rw [List.take_succ_eq_append_getElem hlt];unfold textsOf;rw [List.map_append];rfl
   generalize d.drop[j]=x at *
   (refine gGo ?_;intros)
   refine rowAt_of (by simpa using hgg) ?_
   conv=>whnf
   (refine gGo ?_;intros)
   by_cases hm:x.text∈L
   ·obtain ⟨i,b,q1,q2⟩:=hK0.yes hm
    refine ⟨_,q1,?_⟩
    conv=>whnf
    (refine gGo ?_;intros)
    refine ⟨_,_,?_,⟨j+1,L,_,_,by omega,hK0.set q2 b,fun s=>?_,rfl,rfl⟩,⟨[(3,3),(5,5),(6,6),(27,27)],[],[],.mq (.ci 3 (.ci 5 (.ci 6 (.ci 27 .nil))))⟩⟩
    ·omega
    ·rw [hts,List.mem_append,←hL]
     exact ⟨fun h=>.inl h,fun h=>by rcases h with h | h;exact h;simp at h;rw [h];exact hm⟩
   ·refine ⟨_,hK0.no hm,?_⟩
    conv=>whnf
    (refine gGo ?_;intros)
    refine ⟨_,_,?_,⟨j+1,L++[x.text],_,_,by omega,hK0.snoc _ _,fun s=>?_,rfl,rfl⟩,⟨[(3,3),(5,5),(6,6),(27,27)],[],[],.mq (.ci 3 (.ci 5 (.ci 6 (.ci 27 .nil))))⟩⟩
    ·omega
    ·rw [hts,List.mem_append,List.mem_append,←hL]
  ·have hje:j=d.drop.length:=by omega
   rw [hje,List.take_length] at hL
   (refine gGo ?_;intros)
   (refine gCA [] [(7,61)] [] (spO) ?_;conv=>whnf)
   (refine gGo ?_;intros)
   refine W.loopG (fun m st=>∃ j:Nat,j≤t.cols.length∧m=t.cols.length-j∧st=⟨[(1,.int .i64 k),(3,.bp 3 0),(5,.bp 5 0),(6,.bp 6 0),(9,.omap 27 0),(12,.bp 12 0),(43,.int .i64 t.cols.length),(44,.int .i64 j)],[(3,[.rows 3 [t.row] none]),(5,[.rows 2 [d.row] none]),(6,[.rows 3 [[.int .i64 0,.str [],.nils]] none]),(27,[.map es c (some [])]),(12,[.rows 3 [[.int .i64 t.id,.str t.name,.osl 61 0 0 t.cols.length t.cols.length]] none]),(61,[.rows 2 (colRows (colsA t k d (j)++t.cols.drop (j))) (some [])])],[3,5,6,27,12,61]⟩)
    t.cols.length _ ⟨0,by omega,by omega,rfl⟩ ⟨[(3,3),(5,5),(6,6),(27,27),(12,12),(61,61)],[],[],.mq (.ci 3 (.ci 5 (.ci 6 (.ci 27 (.ci 12 (.ci 61 .nil))))))⟩ ?_
   rintro m st ⟨j,hj2,rfl,rfl⟩
   (refine gGo ?_;intros)
   refine boolRes_split (fun hb=>?_) (fun hb=>?_)<;>conv=>whnf
   ·have hlt:j<t.cols.length:=by omega
    have hx:=colRows_get hlt
    have hxk:=colRows_get hk
    have lC:=valid_cells hv _ (List.getElem_mem hlt)
    have lK:=valid_cells hv _ (List.getElem_mem hk)
    have hcg:t.cols.getD j ⟨[],[]⟩=t.cols[j]:=by simp [hlt]
    have hdr:=List.drop_eq_getElem_cons hlt
    generalize t.cols[j]=cj at *
    generalize t.cols[k]=ck at *
    have hcl:=cellRows_len cj.cells
    (refine gGo ?_;intros)
    refine rowAt_of (by simpa using hx) ?_
    conv=>whnf
    (refine gGo ?_;intros)
    refine W.ownNil 14 62 2 rfl rfl ?_
    refine W.loopG (fun m st=>∃ i:Nat,i≤cj.cells.length∧m=cj.cells.length-i∧st=⟨[(1,.int .i64 k),(3,.bp 3 0),(5,.bp 5 0),(6,.bp 6 0),(9,.omap 27 0),(12,.bp 12 0),(43,.int .i64 t.cols.length),(44,.int .i64 j),(13,.int .i64 j),(14,.osl 62 0 0 (cellRows (keptA t k d cj i)).length (cellRows (keptA t k d cj i)).length),(52,.sl (cellRows cj.cells) false),(53,.int .i64 (cellRows cj.cells).length),(54,.int .i64 i)],[(3,[.rows 3 [t.row] none]),(5,[.rows 2 [d.row] none]),(6,[.rows 3 [[.int .i64 0,.str [],.nils]] none]),(27,[.map es c (some [])]),(12,[.rows 3 [[.int .i64 t.id,.str t.name,.osl 61 0 0 t.cols.length t.cols.length]] none]),(61,[.rows 2 (colRows (colsA t k d (j)++t.cols.drop (j))) (some [])]),(62,[.rows 2 (cellRows (keptA t k d cj i)) (some [])])],[3,5,6,27,12,61,62]⟩)
     cj.cells.length _ ⟨0,by omega,by omega,rfl⟩ ⟨[(3,3),(5,5),(6,6),(27,27),(12,12),(61,61),(62,62)],[],[],.mq (.ci 3 (.ci 5 (.ci 6 (.ci 27 (.ci 12 (.ci 61 (.ci 62 .nil)))))))⟩ ?_
    rintro m st ⟨i,hi,rfl,rfl⟩
    (refine gGo ?_;intros)
    refine boolRes_split (fun hb=>?_) (fun hb=>?_)<;>conv=>whnf
    ·have hil:i<cj.cells.length:=by omega
     have hik:i<(colK t k).length:=by omega
     have hxi:=cellRows_get hil
     have hxj:(cellRows ck.cells)[i]?=some (cellI (colK t k) i).row:=by
      rw [hkk] at hik ⊢
      rw [cellRows_get hik];simp [cellI,hik]
     have hci:cellI cj.cells i=cj.cells[i]:=by simp [cellI,hil]
     have hsn:=keptA_snoc t k d cj i
     have hkl:=keptA_len t k d cj i
     have hkl2:=cellRows_len (keptA t k d cj i)
     rw [hci] at hsn
     generalize cj.cells[i]=x at *
     (refine gGo ?_;intros)
     refine rowAt_of (by simpa using hxi) ?_
     conv=>whnf
     (refine gGo ?_;intros)
     refine rowAt_of (by simpa using hxk) ?_
     conv=>whnf
     (refine gGo ?_;intros)
     refine rowAt_of (by simpa using hxj) ?_
     conv=>whnf
     (refine gGo ?_;intros)
     refine zok_intro (by kernel_rfl) ?_
     conv=>whnf
     by_cases hm:(cellI (colK t k) i).text∈L
     ·obtain ⟨i2,b,q1,q2⟩:=hK0.yes hm
      have hkb2:¬ keepB t k d i=true:=by unfold keepB;simp only [decide_eq_true_eq,Decidable.not_not];exact (hL _).1 hm
      rw [if_neg hkb2] at hsn
      refine ⟨_,q1,?_⟩
      conv=>whnf
      (refine gGo ?_;intros)
      refine ⟨_,_,?_,⟨i+1,by omega,rfl,rfl⟩,[(3,3),(5,5),(6,6),(27,27),(12,12),(61,61),(62,62)],[],[],LeG.mk' rfl rfl rfl (by repeat' (first | exact trivial | exact ⟨_,.refl _,rfl⟩ | (rw [hsn];exact ⟨_,.refl _,rfl⟩) | apply And.intro)) (.ci 3 (.ci 5 (.ci 6 (.ci 27 (.ci 12 (.ci 61 (.cons 62 rfl rfl (.refl _) ?_ .nil))))))) rfl rfl (by rw [hK];rfl)⟩
      ·omega
      ·rw [hsn];rfl
     ·have hkb2:keepB t k d i=true:=by unfold keepB;simp only [decide_eq_true_eq];exact fun h=>hm ((hL _).2 h)
      rw [if_pos hkb2] at hsn
      refine ⟨_,hK0.no hm,?_⟩
      conv=>whnf
      (refine gGo ?_;intros)
      refine ⟨⟨rowsSz_cons rfl rowsSz_nil,rfl⟩,fitsN (n:=(cellRows (keptA t k d cj i)).length+1) (b:=24) (by omega) (by omega),.inl ⟨rfl,rfl,?_⟩⟩
      conv=>whnf
      (refine gGo ?_;intros)
      refine ⟨_,_,?_,⟨i+1,by omega,rfl,rfl⟩,[(3,3),(5,5),(6,6),(27,27),(12,12),(61,61),(62,62)],[],[],LeG.mk' rfl rfl rfl (by repeat' (first | exact trivial | exact ⟨_,.refl _,rfl⟩ | (rw [hsn,cellRows_snoc,List.length_append];exact ⟨_,.refl _,rfl⟩) | apply And.intro)) (.ci 3 (.ci 5 (.ci 6 (.ci 27 (.ci 12 (.ci 61 (.cons 62 rfl rfl (.refl _) ?_ .nil))))))) rfl rfl (by rw [hK];rfl)⟩
      ·omega
      ·rw [hsn,cellRows_snoc];rfl
    ·have hie:i=cj.cells.length:=by omega
     subst hie
     have h0:keptA t k d cj cj.cells.length=keptA t k d cj cj.cells.length++newA d j 0:=by simp [newA]
     rw [h0]
     (refine gGo ?_;intros)
     refine W.loopG (fun m st=>∃ i:Nat,i≤d.add.length∧m=d.add.length-i∧st=⟨[(1,.int .i64 k),(3,.bp 3 0),(5,.bp 5 0),(6,.bp 6 0),(9,.omap 27 0),(12,.bp 12 0),(43,.int .i64 t.cols.length),(44,.int .i64 j),(13,.int .i64 j),(14,.osl 62 0 0 (cellRows (keptA t k d cj cj.cells.length++newA d j i)).length (cellRows (keptA t k d cj cj.cells.length++newA d j i)).length),(78,.sl (lineRows d.add) false),(79,.int .i64 (lineRows d.add).length),(80,.int .i64 i)],[(3,[.rows 3 [t.row] none]),(5,[.rows 2 [d.row] none]),(6,[.rows 3 [[.int .i64 0,.str [],.nils]] none]),(27,[.map es c (some [])]),(12,[.rows 3 [[.int .i64 t.id,.str t.name,.osl 61 0 0 t.cols.length t.cols.length]] none]),(61,[.rows 2 (colRows (colsA t k d (j)++t.cols.drop (j))) (some [])]),(62,[.rows 2 (cellRows (keptA t k d cj cj.cells.length++newA d j i)) (some [])])],[3,5,6,27,12,61,62]⟩)
      d.add.length _ ⟨0,by omega,by omega,rfl⟩ ⟨[(3,3),(5,5),(6,6),(27,27),(12,12),(61,61),(62,62)],[],[],.mq (.ci 3 (.ci 5 (.ci 6 (.ci 27 (.ci 12 (.ci 61 (.ci 62 .nil)))))))⟩ ?_
     rintro m st ⟨i,hi,rfl,rfl⟩
     (refine gGo ?_;intros)
     refine boolRes_split (fun hb=>?_) (fun hb=>?_)<;>conv=>whnf
     ·have hil:i<d.add.length:=by omega
      have hgx:=lineRows_get hil
      have hrl:=hadd _ (List.getElem_mem hil)
      have hns:=newA_snoc j hil
      generalize d.add[i]=r at *
      have hjr:j<r.length:=by omega
      have hrj:(cellRows r)[j]?=some (cellI r j).row:=by rw [cellRows_get hjr];simp [cellI,hjr]
      have hkl:=keptA_len t k d cj cj.cells.length
      have hnl:(newA d j i).length≤i:=by unfold newA;simp;omega
      have hxl:=cellRows_len (keptA t k d cj cj.cells.length++newA d j i)
      rw [List.length_append] at hxl
      have hsn:keptA t k d cj cj.cells.length++newA d j (i+1)=(keptA t k d cj cj.cells.length++newA d j i)++[cellI r j]:=by rw [hns,List.append_assoc]
      generalize keptA t k d cj cj.cells.length++newA d j i=X at *
      (refine gGo ?_;intros)
      refine rowAt_of (by simpa using hgx) ?_
      conv=>whnf
      (refine gGo ?_;intros)
      refine rowAt_of (by simpa using hrj) ?_
      conv=>whnf
      (refine gGo ?_;intros)
      refine ⟨⟨rowsSz_cons rfl rowsSz_nil,rfl⟩,fitsN (n:=(cellRows X).length+1) (b:=24) (by omega) (by omega),.inl ⟨rfl,rfl,?_⟩⟩
      conv=>whnf
      (refine gGo ?_;intros)
      refine ⟨_,_,?_,⟨i+1,by omega,rfl,rfl⟩,[(3,3),(5,5),(6,6),(27,27),(12,12),(61,61),(62,62)],[],[],LeG.mk' rfl rfl rfl (by repeat' (first | exact trivial | exact ⟨_,.refl _,rfl⟩ | (rw [hsn,cellRows_snoc,List.length_append];exact ⟨_,.refl _,rfl⟩) | apply And.intro)) (.ci 3 (.ci 5 (.ci 6 (.ci 27 (.ci 12 (.ci 61 (.cons 62 rfl rfl (.refl _) ?_ .nil))))))) rfl rfl (by rw [hK];rfl)⟩
      ·omega
      ·rw [hsn,cellRows_snoc];rfl
     ·have hie:i=d.add.length:=by omega
      subst hie
      have hX:keptA t k d cj cj.cells.length++newA d j d.add.length=(colA t k d j cj).cells:=by simp [newA,colA]
      rw [hX]
      have hcs:colsA t k d (j+1)=colsA t k d j++[colA t k d j cj]:=by
       unfold colsA;rw [List.range_succ,List.map_append];simp only [List.map_cons,List.map_nil];rw [hcg]
      have hcl2:=colsA_len t k d j
      have hxm:(colRows (colsA t k d j++t.cols.drop j))[j]?=some cj.row:=by
       rw [hdr];unfold colRows;rw [List.map_append,List.getElem?_append_right (by simp [hcl2])];simp [hcl2]
      have hlenC:t.cols.length=(colRows (colsA t k d j++t.cols.drop j)).length:=by rw [colRows_len];simp [hcl2];omega
      have hset:(colRows (colsA t k d j++t.cols.drop j)).set (0+(j:Int).toNat) [.str cj.name,.sl (cellRows (colA t k d j cj).cells) false]=colRows (colsA t k d (j+1)++t.cols.drop (j+1)):=by
       rw [hdr,hcs];unfold colRows;simp only [List.map_append,List.map_cons,Nat.zero_add,Int.toNat_natCast]
       rw [List.set_append_right _ _ (by simp [hcl2])]
       simp [hcl2,Column.row,colA]
      refine W.leG (mp:=[(3,3),(5,5),(6,6),(27,27),(12,12),(61,61)]) (bo:=[62]) (st':=⟨[(1,.int .i64 k),(3,.bp 3 0),(5,.bp 5 0),(6,.bp 6 0),(9,.omap 27 0),(12,.bp 12 0),(43,.int .i64 t.cols.length),(44,.int .i64 j),(13,.int .i64 j),(14,.sl (cellRows (colA t k d j cj).cells) false),(81,.bool false)],[(3,[.rows 3 [t.row] none]),(5,[.rows 2 [d.row] none]),(6,[.rows 3 [[.int .i64 0,.str [],.nils]] none]),(27,[.map es c (some [])]),(12,[.rows 3 [[.int .i64 t.id,.str t.name,.osl 61 0 0 t.cols.length t.cols.length]] none]),(61,[.rows 2 (colRows (colsA t k d (j)++t.cols.drop (j))) (some [])])],[3,5,6,27,12,61]⟩)
       (LeG.mk' rfl rfl rfl (by repeat' (first | exact trivial | exact ⟨_,.refl _,rfl⟩ | exact ⟨_,Lent.whole rfl rfl rfl rfl (.inl rfl),rfl⟩ | apply And.intro)) (.ci 3 (.ci 5 (.ci 6 (.ci 27 (.ci 12 (.ci 61 .nil)))))) rfl rfl (by rw [hK];rfl)) ?_
      (refine gGo ?_;intros)
      refine rowAt_of (by simpa using hxm) ?_
      conv=>whnf
      (refine gGo ?_;intros)
      refine ⟨_,_,?_,⟨j+1,by omega,rfl,rfl⟩,[(3,3),(5,5),(6,6),(27,27),(12,12),(61,61)],[],[],LeG.mq (.ci 3 (.ci 5 (.ci 6 (.ci 27 (.ci 12 (.cons 61 rfl rfl (.refl _) (congrArg (fun r=>[Blk.rows 2 r (some [])]) hset.symm) .nil))))))⟩
      omega
   ·have hje:j=t.cols.length:=by omega
    subst hje
    have hX:colsA t k d t.cols.length++t.cols.drop t.cols.length=colsA t k d t.cols.length:=by simp
    have hXl:t.cols.length=(colRows (colsA t k d t.cols.length)).length:=by rw [colRows_len,colsA_len]
    rw [hX]
    (refine gGo ?_;intros)
    refine W.leG (mp:=[(6,6)]) (bo:=[61]) (st':=⟨[(6,.bp 6 0),(7,.int .i64 0)],[(6,[.rows 3 [(applyD t k d).row] none])],[6]⟩)
     (LeG.mq (.cons 6 (b1:=.rows 3 [(applyD t k d).row] none) rfl rfl (.rows _ _ _ ⟨⟨⟨.refl _,rfl⟩,⟨.refl _,rfl⟩,⟨Lent.whole rfl rfl hXl rfl (by first | exact .inl rfl | exact .inr rfl),rfl⟩,trivial⟩,trivial⟩) rfl .nil)) ?_
    (refine gM ?_;conv=>whnf)
    exact retH rfl (.refl _) rfl rfl rfl trivial
 ·have hof:applyM t key d=(Table.zero,mayM t key d):=by simp [applyM,hmay]
  rw [hof]
  (refine gGo ?_;intros)
  (refine gPC (sp1) ?_;conv=>whnf)
  (refine gGo ?_;intros)
  (refine gM ?_;conv=>whnf)
  exact retH rfl (.norm _) rfl rfl rfl trivial
def keyWords:List Str:=[[97],[98],[99],[100],[101],[102],[103]]
def valWords:List Str:=[[49],[50]]
noncomputable def keyGo (l:List Int):Nat→Nat→List Str→List Str→(List Str×List Str)×Nat
 | 0,p,ks,vs=>((ks,vs),p)
 | n+1,p,ks,vs=>if wordF keyWords l p∈ks then keyGo l n (nextP l p) ks vs else keyGo l n (nextP l (nextP l p)) (ks++[wordF keyWords l p]) (vs++[wordF valWords l (nextP l p)])
def cellOf (s:Str):Cell:=⟨false,s⟩
def keyT (id:Int) (r:List Str×List Str):Table:=⟨id,[],[⟨[118],r.2.map cellOf⟩,⟨[107,101,121],r.1.map cellOf⟩]⟩
noncomputable def keyF (l:List Int) (id:Int) (p:Nat):Table×Nat:=
 (keyT id (keyGo l (nextV l p 7).toNat (nextP l p) [] []).1,(keyGo l (nextV l p 7).toNat (nextP l p) [] []).2)
structure KeyOK (r:List Str×List Str):Prop where
 nd:r.1.Nodup
 len:r.2.length=r.1.length
 kw:∀ s∈r.1,s∈keyWords
 vw:∀ s∈r.2,s∈valWords
theorem KeyOK.snoc {ks vs:List Str}(h:KeyOK (ks,vs)) {w v:Str}(hm:w∉ks) (w1:w∈keyWords) (w2:v∈valWords):KeyOK (ks++[w],vs++[v]):=
 ⟨List.nodup_append.2 ⟨h.nd,by simp,fun a ha b hb=>by simp at hb;subst hb;exact fun e=>hm (e ▸ ha)⟩,by have:=h.len;simpa using this,fun s hs=>by
  rcases List.mem_append.1 hs with h1 | h1
  ·exact h.kw s h1
  ·simp at h1;rw [h1];exact w1,fun s hs=>by
  rcases List.mem_append.1 hs with h1 | h1
  ·exact h.vw s h1
  ·simp at h1;rw [h1];exact w2⟩
theorem cellsOf_snoc (l:List Str) (w:Str):cellRows ((l++[w]).map cellOf)=cellRows (l.map cellOf)++[[.bool false,.str w]]:=by simp [cellRows,cellOf,Cell.row]
theorem keyGo_ok {l:List Int}:∀ (n p:Nat) (ks vs:List Str),p≤l.length→KeyOK (ks,vs)→KeyOK (keyGo l n p ks vs).1∧(keyGo l n p ks vs).2≤l.length∧(keyGo l n p ks vs).1.1.length≤ks.length+n
 | 0,p,ks,vs,hp,h=>⟨h,hp,by simp [keyGo]⟩
 | n+1,p,ks,vs,hp,h=>by
  have hp1:=nextP_le hp
  obtain ⟨w1,_⟩:=wordF_spec (ws:=keyWords) (by decide) (by decide) hp
  obtain ⟨w2,_⟩:=wordF_spec (ws:=valWords) (by decide) (by decide) hp1
  unfold keyGo
  split
  ·obtain ⟨a1,a2,a3⟩:=keyGo_ok n _ ks vs hp1 h
   exact ⟨a1,a2,by omega⟩
  ·rename_i hm
   obtain ⟨a1,a2,a3⟩:=keyGo_ok n _ (ks++[wordF keyWords l p]) (vs++[wordF valWords l (nextP l p)]) (nextP_le hp1) (h.snoc hm w1 w2)
   refine ⟨a1,a2,?_⟩
   simp at a3;omega
set_option maxHeartbeats 16000000 in
theorem keyed_spec (l:List Int) (id:Int) (p:Nat) (hp:p≤l.length):Spec Tryd.prog 7 [.bp 0 0,.int .i64 id] [(0,diceB l p)] (.agg (keyF l id p).1.row) [(0,diceB l (keyF l id p).2)]:=by
 have hp1:=nextP_le hp
 have hr:=nextV_range l p (n:=7) (by omega)
 have sp1:=next_spec l p 7 (by omega) hp
 have hK:keyF l id p=(keyT id (keyGo l (nextV l p 7).toNat (nextP l p) [] []).1,(keyGo l (nextV l p 7).toNat (nextP l p) [] []).2):=rfl
 rw [hK]
 clear hK
 obtain ⟨N,hN2⟩:∃ N:Nat,nextV l p 7=N:=⟨_,(Int.toNat_of_nonneg hr.1).symm⟩
 rw [hN2] at sp1 hr ⊢
 rw [Int.toNat_natCast]
 refine gEn env Tryd.func7 fun Γ hN hK hML=>?_
 (refine gGl ?_;intros)
 refine Or.inl ?_
 conv=>whnf
 (refine gGo ?_;intros)
 (refine ⟨_,_,_,callG [(0,0)] [] [] rfl rfl rfl (by kernel_rfl) (sp1) (by repeat' (first | exact trivial | exact Lent.refl _ | exact Lent.norm _ | exact Lent.whole rfl rfl (by first | rfl | exact List.length_append.symm | exact hlenR | simp) rfl (by first | exact .inl rfl | exact .inr rfl) | apply And.intro)) rfl ⟨rfl,rfl,rfl,rfl,rfl,by repeat' (first | exact trivial | rfl | apply And.intro),rfl,rfl⟩,?_⟩;conv=>whnf)
 (refine gGo ?_;intros)
 refine W.leG (mp:=[(0,0),(4,4),(5,5),(11,11),(13,13)]) (bo:=[]) (st':=⟨[(0,.bp 0 0),(4,.bp 4 0),(5,.bp 5 0),(6,.omap 13 0),(15,.int .i64 N),(16,.int .i64 0)],[(0,[diceB l (nextP l p)]),(4,[.rows 3 [[.int .i64 0,.str [],.nils]] none]),(5,[.rows 3 [[.int .i64 id,.str [],.osl 11 0 0 2 2]] none]),(11,[.rows 2 [[.str [118],.nils],[.str [107,101,121],.nils]] none]),(13,[.map [] 0 (some [])])],[0,4,5,11,13]⟩)
  (LeG.mq (.ci 0 (.ci 4 (.ci 5 (.ci 11 (.ci 13 .nil)))))) ?_
 refine W.ownCell 11 0 1 71 2 rfl rfl rfl rfl rfl ?_
 refine W.ownCell 11 1 1 72 2 rfl rfl rfl rfl rfl ?_
 refine W.loopG (fun m st=>∃ (n i q:Nat) (ks vs:List Str) (es:List (Nat×V×V)) (c:Nat),q≤l.length∧KeyedB es ks∧KeyOK (ks,vs)∧keyGo l N (nextP l p) [] []=keyGo l n q ks vs∧n+i=N∧ks.length≤i∧m=n∧st=⟨[(0,.bp 0 0),(4,.bp 4 0),(5,.bp 5 0),(6,.omap 13 0),(15,.int .i64 N),(16,.int .i64 i)],[(0,[diceB l q]),(4,[.rows 3 [[.int .i64 0,.str [],.nils]] none]),(5,[.rows 3 [[.int .i64 id,.str [],.osl 11 0 0 2 2]] none]),(11,[.rows 2 [[.str [118],.osl 71 0 0 (cellRows (vs.map cellOf)).length (cellRows (vs.map cellOf)).length],[.str [107,101,121],.osl 72 0 0 (cellRows (ks.map cellOf)).length (cellRows (ks.map cellOf)).length]] none]),(13,[.map es c (some [])]),(71,[.rows 2 (cellRows (vs.map cellOf)) (some [])]),(72,[.rows 2 (cellRows (ks.map cellOf)) (some [])])],[0,4,5,11,13,71,72]⟩)
  N _ ⟨N,0,nextP l p,[],[],[],0,hp1,⟨rfl⟩,⟨List.nodup_nil,rfl,fun _ h=>(by cases h),fun _ h=>(by cases h)⟩,rfl,rfl,Nat.le_refl _,rfl,rfl⟩ ⟨[(0,0),(4,4),(5,5),(11,11),(13,13),(71,71),(72,72)],[],[],.mq (.ci 0 (.ci 4 (.ci 5 (.ci 11 (.ci 13 (.ci 71 (.ci 72 .nil)))))))⟩ ?_
 rintro m st ⟨n,i,q,ks,vs,es,c,hq,hes,hok,hgo,hni,hki,rfl,rfl⟩
 have hq1:=nextP_le hq
 have hkl:=cellRows_len (ks.map cellOf)
 have hvl:=cellRows_len (vs.map cellOf)
 have hlen:vs.length=ks.length:=hok.len
 rw [List.length_map] at hkl hvl
 (refine gGo ?_;intros)
 refine boolRes_split (fun hb=>?_) (fun hb=>?_)<;>conv=>whnf
 ·obtain ⟨n',rfl⟩:∃ n',m=n' + 1:=⟨m-1,by omega⟩
  obtain ⟨w1,sp2⟩:=wordF_spec (ws:=keyWords) (by decide) (by decide) hq
  obtain ⟨w2,sp3⟩:=wordF_spec (ws:=valWords) (by decide) (by decide) hq1
  rw [show keyGo l (n' + 1) q ks vs=if wordF keyWords l q∈ks then keyGo l n' (nextP l q) ks vs else keyGo l n' (nextP l (nextP l q)) (ks++[wordF keyWords l q]) (vs++[wordF valWords l (nextP l q)]) from rfl] at hgo
  (refine gGo ?_;intros)
  (refine ⟨_,_,_,callG [(0,0)] [] [] rfl rfl rfl (by kernel_rfl) (sp2) (by repeat' (first | exact trivial | exact Lent.refl _ | exact Lent.norm _ | exact Lent.whole rfl rfl (by first | rfl | exact List.length_append.symm | exact hlenR | simp) rfl (by first | exact .inl rfl | exact .inr rfl) | apply And.intro)) rfl ⟨rfl,rfl,rfl,rfl,rfl,by repeat' (first | exact trivial | rfl | apply And.intro),rfl,rfl⟩,?_⟩;conv=>whnf)
  (refine gGo ?_;intros)
  refine zok_intro (by kernel_rfl) ?_
  conv=>whnf
  by_cases hm:wordF keyWords l q∈ks
  ·rw [if_pos hm] at hgo
   obtain ⟨j,b,q1,q2⟩:=hes.yes hm
   refine ⟨_,q1,?_⟩
   conv=>whnf
   (refine gGo ?_;intros)
   refine ⟨_,_,?_,⟨n',i+1,_,ks,vs,es,c,hq1,hes,hok,hgo,by omega,by omega,rfl,rfl⟩,⟨[(0,0),(4,4),(5,5),(11,11),(13,13),(71,71),(72,72)],[],[],.mq (.ci 0 (.ci 4 (.ci 5 (.ci 11 (.ci 13 (.ci 71 (.ci 72 .nil)))))))⟩⟩
   omega
  ·rw [if_neg hm] at hgo
   refine ⟨_,hes.no hm,?_⟩
   conv=>whnf
   (refine gGo ?_;intros)
   refine ⟨_,hes.no hm,?_⟩
   conv=>whnf
   (refine gGo ?_;intros)
   refine ⟨⟨rowsSz_cons rfl rowsSz_nil,rfl⟩,fitsN (n:=(cellRows (ks.map cellOf)).length+1) (b:=24) (by omega) (by omega),.inl ⟨rfl,rfl,?_⟩⟩
   conv=>whnf
   (refine gGs ?_;intros)
   refine W.leG (mp:=[(0,0),(4,4),(5,5),(11,11),(13,13),(71,71),(72,72)]) (bo:=[]) (st':=⟨[(0,.bp 0 0),(4,.bp 4 0),(5,.bp 5 0),(6,.omap 13 0),(15,.int .i64 N),(16,.int .i64 i)],[(0,[diceB l (nextP l q)]),(4,[.rows 3 [[.int .i64 0,.str [],.nils]] none]),(5,[.rows 3 [[.int .i64 id,.str [],.osl 11 0 0 2 2]] none]),(11,[.rows 2 [[.str [118],.osl 71 0 0 (cellRows (vs.map cellOf)).length (cellRows (vs.map cellOf)).length],[.str [107,101,121],.osl 72 0 0 (cellRows ((ks++[wordF keyWords l q]).map cellOf)).length (cellRows ((ks++[wordF keyWords l q]).map cellOf)).length]] none]),(13,[.map (es++[(c,.str (wordF keyWords l q),.bool true)]) (c+1) (some [])]),(71,[.rows 2 (cellRows (vs.map cellOf)) (some [])]),(72,[.rows 2 (cellRows ((ks++[wordF keyWords l q]).map cellOf)) (some [])])],[0,4,5,11,13,71,72]⟩)
    (LeG.mq (.ci 0 (.ci 4 (.ci 5 (.cons 11 rfl rfl (.refl _) (by rw [cellsOf_snoc,List.length_append];rfl) (.ci 13 (.ci 71 (.cons 72 rfl rfl (.refl _) (by rw [cellsOf_snoc];rfl) .nil)))))))) ?_
   (refine gGo ?_;intros)
   (refine ⟨_,_,_,callG [(0,0)] [] [] rfl rfl rfl (by kernel_rfl) (sp3) (by repeat' (first | exact trivial | exact Lent.refl _ | exact Lent.norm _ | exact Lent.whole rfl rfl (by first | rfl | exact List.length_append.symm | exact hlenR | simp) rfl (by first | exact .inl rfl | exact .inr rfl) | apply And.intro)) rfl ⟨rfl,rfl,rfl,rfl,rfl,by repeat' (first | exact trivial | rfl | apply And.intro),rfl,rfl⟩,?_⟩;conv=>whnf)
   (refine gGo ?_;intros)
   refine ⟨⟨rowsSz_cons rfl rowsSz_nil,rfl⟩,fitsN (n:=(cellRows (vs.map cellOf)).length+1) (b:=24) (by omega) (by omega),.inl ⟨rfl,rfl,?_⟩⟩
   conv=>whnf
   (refine gGo ?_;intros)
   refine ⟨_,_,?_,⟨n',i+1,nextP l (nextP l q),ks++[wordF keyWords l q],vs++[wordF valWords l (nextP l q)],es++[(c,.str (wordF keyWords l q),.bool true)],c+1,nextP_le hq1,hes.snoc _ _,hok.snoc hm w1 w2,hgo,by omega,by simp;omega,rfl,rfl⟩,[(0,0),(4,4),(5,5),(11,11),(13,13),(71,71),(72,72)],[],[],LeG.mq (.ci 0 (.ci 4 (.ci 5 (.cons 11 rfl rfl (.refl _) (by rw [cellsOf_snoc (l:=vs),List.length_append];rfl) (.ci 13 (.cons 71 rfl rfl (.refl _) (by rw [cellsOf_snoc];rfl) (.ci 72 .nil)))))))⟩
   omega
 ·have hm0:m=0:=by omega
  subst hm0
  rw [show keyGo l 0 q ks vs=((ks,vs),q) from rfl] at hgo
  rw [hgo]
  (refine gGo ?_;intros)
  refine W.leG (mp:=[(0,0),(4,4),(11,11)]) (bo:=[71,72]) (st':=⟨[(4,.bp 4 0)],[(0,[diceB l q]),(4,[.rows 3 [[.int .i64 id,.str [],.osl 11 0 0 2 2]] none]),(11,[.rows 2 [[.str [118],.sl (cellRows (vs.map cellOf)) false],[.str [107,101,121],.sl (cellRows (ks.map cellOf)) false]] none])],[0,4,11]⟩)
   (LeG.mq (.ci 0 (.ci 4 (.cons 11 (b1:=.rows 2 [[.str [118],.sl (cellRows (vs.map cellOf)) false],[.str [107,101,121],.sl (cellRows (ks.map cellOf)) false]] none) rfl rfl (.rows _ _ _ ⟨⟨⟨.refl _,rfl⟩,⟨Lent.whole rfl rfl rfl rfl (.inl rfl),rfl⟩,trivial⟩,⟨⟨.refl _,rfl⟩,⟨Lent.whole rfl rfl rfl rfl (.inl rfl),rfl⟩,trivial⟩,trivial⟩) rfl .nil)))) ?_
  refine W.leG (mp:=[(0,0),(4,4)]) (bo:=[11]) (st':=⟨[(4,.bp 4 0)],[(0,[diceB l q]),(4,[.rows 3 [(keyT id (ks,vs)).row] none])],[0,4]⟩)
   (LeG.mq (.ci 0 (.cons 4 (b1:=.rows 3 [(keyT id (ks,vs)).row] none) rfl rfl (.rows _ _ _ ⟨⟨⟨.refl _,rfl⟩,⟨.refl _,rfl⟩,⟨Lent.whole rfl rfl rfl rfl (by first | exact .inl rfl | exact .inr rfl),rfl⟩,trivial⟩,trivial⟩) rfl .nil))) ?_
  (refine gM ?_;conv=>whnf)
  exact retH rfl (.refl _) rfl rfl rfl ⟨rfl,rfl,trivial⟩
def keyAtB (t:Table) (i:Nat):Bool:=keyB (colK t i)
def keysTo (t:Table) (j:Nat):List Int:=((List.range j).filter (keyAtB t)).map fun (i:Nat)=>(i:Int)
def keysM (t:Table):List Int:=if validB t=true then keysTo t t.cols.length else []
theorem keysTo_snoc (t:Table) (j:Nat):keysTo t (j+1)=if keyAtB t j=true then keysTo t j++[(j:Int)] else keysTo t j:=by
 unfold keysTo
 rw [List.range_succ,List.filter_append]
 by_cases h:keyAtB t j=true<;>simp [h]
theorem keysTo_len (t:Table) (j:Nat):(keysTo t j).length≤j:=by
 have:=filt_len (fun (i:Nat)=>(i:Int)) (keyAtB t) (List.range j)
 simpa [keysTo] using this
theorem intRows_snoc2 (a:List Int) (x:Int):intRows .i64 (a++[x])=intRows .i64 a++[[.int .i64 x]]:=by simp [intRows]
theorem intRows_len2 (a:List Int):(intRows .i64 a).length=a.length:=by simp [intRows]
set_option maxHeartbeats 4000000 in
theorem keys_spec (t:Table):Spec Tryd.prog 18 [.agg t.row] [] (.sl (intRows .i64 (keysM t)) false) []:=by
 have sp1:=valid_spec t
 have hcl:=colRows_len t.cols
 refine gEn env Tryd.func18 fun Γ hN hK hML=>?_
 (refine gGo ?_;intros)
 cases hv:validB t with
 | false =>
  rw [hv] at sp1
  have hT:keysM t=[]:=by simp [keysM,hv]
  rw [hT]
  (refine gPC (sp1) ?_;conv=>whnf)
  (refine gGo ?_;intros)
  (refine gM ?_;conv=>whnf)
  exact retH rfl (.norm _) rfl rfl rfl trivial
 | true =>
  rw [hv] at sp1
  have hT:keysM t=keysTo t t.cols.length:=by simp [keysM,hv]
  rw [hT]
  have f64:t.cols.length≤4294967295:=by
   simp only [validB,headB,Bool.and_eq_true,decide_eq_true_eq] at hv;omega
  (refine gPC (sp1) ?_;conv=>whnf)
  (refine gGo ?_;intros)
  refine W.ownNil 3 51 1 rfl rfl ?_
  refine W.loopG (fun m st=>∃ j:Nat,j≤t.cols.length∧m=t.cols.length-j∧st=⟨[(1,.bp 1 0),(3,.osl 51 0 0 (intRows .i64 (keysTo t j)).length (intRows .i64 (keysTo t j)).length),(10,.int .i64 (colRows t.cols).length),(11,.int .i64 j)],[(1,[.rows 3 [t.row] none]),(51,[.rows 1 (intRows .i64 (keysTo t j)) (some [])])],[1,51]⟩)
   t.cols.length _ ⟨0,by omega,by omega,rfl⟩ ⟨[(1,1),(51,51)],[],[],.mq (.ci 1 (.ci 51 .nil))⟩ ?_
  rintro m st ⟨j,hj,rfl,rfl⟩
  (refine gGo ?_;intros)
  refine boolRes_split (fun hb=>?_) (fun hb=>?_)<;>conv=>whnf
  ·have hlt:j<t.cols.length:=by omega
   have sp2:=isKey_spec t j hlt
   have hsn:=keysTo_snoc t j
   have hkl:=keysTo_len t j
   have hil:=intRows_len2 (keysTo t j)
   have hck:keyB t.cols[j].cells=keyAtB t j:=by simp [keyAtB,colK,hlt]
   rw [hck] at sp2
   (refine gGo ?_;intros)
   cases hkb:keyAtB t j with
   | true =>
    rw [hkb] at sp2
    rw [if_pos hkb] at hsn
    (refine gPC (sp2) ?_;conv=>whnf)
    (refine gGo ?_;intros)
    refine ⟨⟨rowsSz_cons rfl rowsSz_nil,rfl⟩,fitsN (n:=(intRows .i64 (keysTo t j)).length+1) (b:=8) (by omega) (by omega),.inl ⟨rfl,rfl,?_⟩⟩
    conv=>whnf
    (refine gGo ?_;intros)
    refine ⟨_,_,?_,⟨j+1,by omega,rfl,rfl⟩,[(1,1),(51,51)],[],[],LeG.mk' rfl rfl rfl (by repeat' (first | exact trivial | exact ⟨_,.refl _,rfl⟩ | (rw [hsn,intRows_snoc2,List.length_append];exact ⟨_,.refl _,rfl⟩) | apply And.intro)) (.ci 1 (.cons 51 rfl rfl (.refl _) ?_ .nil)) rfl rfl (by rw [hK];rfl)⟩
    ·omega
    ·rw [hsn,intRows_snoc2];rfl
   | false =>
    rw [hkb] at sp2
    rw [if_neg (by rw [hkb];simp)] at hsn
    (refine gPC (sp2) ?_;conv=>whnf)
    (refine gGo ?_;intros)
    refine ⟨_,_,?_,⟨j+1,by omega,rfl,rfl⟩,[(1,1),(51,51)],[],[],LeG.mk' rfl rfl rfl (by repeat' (first | exact trivial | exact ⟨_,.refl _,rfl⟩ | (rw [hsn];exact ⟨_,.refl _,rfl⟩) | apply And.intro)) (.ci 1 (.cons 51 rfl rfl (.refl _) ?_ .nil)) rfl rfl (by rw [hK];rfl)⟩
    ·omega
    ·rw [hsn];rfl
  ·have hje:j=t.cols.length:=by omega
   subst hje
   refine W.leG (mp:=[]) (bo:=[51]) (st':=⟨[(3,.sl (intRows .i64 (keysTo t t.cols.length)) false),(12,.bool false)],[],[]⟩) (LeG.mk' rfl rfl rfl ⟨⟨_,Lent.whole rfl rfl rfl rfl (.inl rfl),rfl⟩,⟨_,.refl _,rfl⟩,trivial⟩ .nil rfl rfl (by rw [hK];rfl)) ?_
   (refine gGr ?_;intros)
   exact ret0 rfl rfl rfl
def dwA:Table:=⟨0,[],[⟨[107],[⟨false,[120]⟩]⟩,⟨[118],[⟨false,[49]⟩]⟩]⟩
def dwB:Table:=⟨0,[],[⟨[107],[⟨false,[120]⟩]⟩,⟨[118],[⟨false,[50]⟩]⟩]⟩
def dwD:Delta:=⟨[⟨false,[120]⟩],[[⟨false,[120]⟩,⟨false,[50]⟩]]⟩
theorem dw1:ofM dwA dwB 0=(dwD,0):=by decide +kernel
theorem dw2a:mayM dwA 0 dwD=0:=by
 have h1:validB dwA=true:=by decide +kernel
 have h2:goodD dwA.cols.length dwD=true:=by decide +kernel
 have h3:checkM 0 [dwA]=0:=by decide +kernel
 have h4:clashD (textsOf (colK dwA 0)) 0 dwD=false:=by decide +kernel
 have h5:¬ (rowsN dwA:Int)-dwD.drop.length+dwD.add.length > 4096:=by decide
 unfold mayM
 rw [if_pos ⟨h1,h2⟩,if_pos h3,if_neg (by rw [show (0:Int).toNat=0 from rfl,h4];simp),if_neg h5]
theorem dw2b:applyD dwA 0 dwD=dwB:=by decide +kernel
theorem dw2:applyM dwA 0 dwD=(dwB,0):=by
 unfold applyM
 rw [if_pos dw2a,show (0:Int).toNat=0 from rfl,dw2b]
theorem dw3:keysM dwA=[0,1]:=by decide +kernel
theorem dwS1:Spec Tryd.prog 17 [.agg dwA.row,.agg dwB.row,.int .i64 0] [] (.tup [.agg dwD.row,.int .i64 0]) []:=by
 have sp1:=of_spec dwA dwB 0
 rw [dw1] at sp1
 exact sp1
theorem dwS2:Spec Tryd.prog 11 [.agg dwA.row,.int .i64 0,.agg dwD.row] [] (.tup [.agg dwB.row,.int .i64 0]) []:=by
 have sp2:=apply_spec dwA 0 dwD (by decide) (by decide)
 rw [dw2] at sp2
 exact sp2
theorem dwS3:Spec Tryd.prog 15 [.agg dwB.row,.agg dwB.row] [] (.bool true) []:=by
 have sp3:=same3_spec dwB dwB
 rw [decide_eq_true rfl] at sp3
 exact sp3
theorem dwS4:Spec Tryd.prog 18 [.agg dwA.row] [] (.sl [[.int .i64 0],[.int .i64 1]] false) []:=by
 have sp4:=keys_spec dwA
 rw [dw3] at sp4
 exact sp4
set_option maxHeartbeats 8000000 in
theorem awake37_spec:Spec Tryd.prog 5 [] [] (.bool true) []:=by
 have sp1:=dwS1
 have sp2:=dwS2
 have sp3:=dwS3
 have sp4:=dwS4
 refine gEn env Tryd.func5 fun Γ hN hK hML=>?_
 (refine gGo ?_;intros)
 (refine gPC (sp1) ?_;conv=>whnf)
 (refine gGo ?_;intros)
 (refine gPC (sp2) ?_;conv=>whnf)
 (refine gGs ?_;intros)
 refine gA ?_
 refine W.leG (mp:=[(1,1),(2,2),(3,3),(5,5)]) (bo:=[]) (st':=⟨[(1,.bp 1 0),(2,.bp 2 0),(3,.bp 3 0),(4,.int .i64 0),(5,.bp 5 0),(6,.int .i64 0)],[(1,[.rows 3 [dwA.row] none]),(2,[.rows 3 [dwB.row] none]),(3,[.rows 2 [dwD.row] none]),(5,[.rows 3 [dwB.row] none])],[1,2,3,5]⟩)
  (LeG.mq (.ci 1 (.ci 2 (.ci 3 (.ci 5 .nil))))) ?_
 (refine gGo ?_;intros)
 (refine gPC (sp3) ?_;conv=>whnf)
 (refine gGo ?_;intros)
 (refine gPC (sp4) ?_;conv=>whnf)
 (refine gGr ?_;intros)
 exact ret0 rfl rfl rfl
abbrev Pair:=Str×Str
def keyC (p:Pair):Cell:=cellOf p.1
def valC (p:Pair):Cell:=cellOf p.2
def pairT (id:Int) (ps:List Pair):Table:=⟨id,[],[⟨[118],ps.map valC⟩,⟨[107,101,121],ps.map keyC⟩]⟩
structure PairOK (ps:List Pair):Prop where
 nd:(ps.map Prod.fst).Nodup
 kw:∀ p∈ps,p.1∈keyWords
 vw:∀ p∈ps,p.2∈valWords
theorem keyT_pair (id:Int) {r:List Str×List Str}(h:r.2.length=r.1.length):keyT id r=pairT id (r.1.zip r.2):=by
 have h1:(r.1.zip r.2).map Prod.fst=r.1:=by rw [List.map_fst_zip (by omega)]
 have h2:(r.1.zip r.2).map Prod.snd=r.2:=by rw [List.map_snd_zip (by omega)]
 unfold keyT pairT
 rw [show (r.1.zip r.2).map valC=((r.1.zip r.2).map Prod.snd).map cellOf by rw [List.map_map];rfl,show (r.1.zip r.2).map keyC=((r.1.zip r.2).map Prod.fst).map cellOf by rw [List.map_map];rfl,h1,h2]
theorem keyOK_pair {r:List Str×List Str}(h:KeyOK r):PairOK (r.1.zip r.2):=by
 have h1:(r.1.zip r.2).map Prod.fst=r.1:=by rw [List.map_fst_zip (by have:=h.len;omega)]
 refine ⟨by rw [h1];exact h.nd,fun p hp=>h.kw _ (List.of_mem_zip hp).1,fun p hp=>h.vw _ (List.of_mem_zip hp).2⟩
theorem PairOK.len {ps:List Pair}(h:PairOK ps):ps.length≤7:=by
 have:=h.nd.length_le_of_subset (l₂:=keyWords) (fun s hs=>by obtain ⟨p,hp,rfl⟩:=List.mem_map.1 hs;exact h.kw p hp)
 rw [List.length_map] at this
 exact this
theorem kw_cell {s:Str}(h:s∈keyWords):cellB (cellOf s)=true:=by
 have:∀ s∈keyWords,cellB (cellOf s)=true:=by decide +kernel
 exact this s h
theorem vw_cell {s:Str}(h:s∈valWords):cellB (cellOf s)=true:=by
 have:∀ s∈valWords,cellB (cellOf s)=true:=by decide +kernel
 exact this s h
theorem pair_rows (id:Int) (ps:List Pair):rowsN (pairT id ps)=ps.length:=by simp [rowsN,pairT]
theorem pair_valid {id:Int}{ps:List Pair}(h:PairOK ps) (hid:0≤id∧id≤1073741824):validB (pairT id ps)=true:=by
 have hl:=h.len
 unfold validB
 rw [Bool.and_eq_true]
 constructor
 ·unfold headB
  rw [pair_rows]
  have h1:fineB []=true:=by decide +kernel
  simp only [pairT,h1,Bool.and_true,Bool.and_eq_true,decide_eq_true_eq]
  exact ⟨⟨decide_eq_true hid,by simp⟩,by omega⟩
 ·rw [Bool.not_eq_true',List.any_eq_false]
  intro c hc
  unfold badCol
  rw [pair_rows]
  simp only [pairT,List.mem_cons,List.not_mem_nil,or_false] at hc
  rcases hc with rfl | rfl
  ·have h1:fineB [118]=true:=by decide +kernel
   have h2:(ps.map valC).all cellB=true:=List.all_eq_true.2 fun x hx=>by
    obtain ⟨p,hp,rfl⟩:=List.mem_map.1 hx;exact vw_cell (h.vw p hp)
   simp [h1,h2]
  ·have h1:fineB [107,101,121]=true:=by decide +kernel
   have h2:(ps.map keyC).all cellB=true:=List.all_eq_true.2 fun x hx=>by
    obtain ⟨p,hp,rfl⟩:=List.mem_map.1 hx;exact kw_cell (h.kw p hp)
   simp [h1,h2]
theorem pair_col (id:Int) (ps:List Pair):colK (pairT id ps) 1=ps.map keyC:=rfl
theorem pair_texts (id:Int) (ps:List Pair):textsOf (colK (pairT id ps) 1)=ps.map Prod.fst:=by
 rw [pair_col];unfold textsOf;rw [List.map_map];rfl
theorem pair_key {id:Int}{ps:List Pair}(h:PairOK ps):keyB (colK (pairT id ps) 1)=true:=by
 rw [keyB_iff]
 refine ⟨fun c hc=>?_,by rw [pair_texts];exact h.nd⟩
 rw [pair_col] at hc
 obtain ⟨p,_,rfl⟩:=List.mem_map.1 hc
 rfl
theorem pair_check1 {i:Int}{a:List Pair}(h:PairOK a):checkM 1 [pairT i a]=0:=by
 have h1:inB 1 (pairT i a)=true:=by simp [inB,pairT]
 have h2:=pair_key (id:=i) h
 unfold checkM
 simp [h1,h2]
end Go.Sx.Sp
