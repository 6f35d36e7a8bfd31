/- Sorting by a text, and what leads from one table to another. -/
import Derived.Test.YthhhdpnchjnfnaaDoorEOne
import Derived.Test.YthhhdpnchjnfnaaDoorSxFour
set_option linter.unusedVariables false
set_option linter.unusedSimpArgs false
namespace Go.Sx.Sp
open Go Go.Sx Go.Proofs Go.RowKit Go.Sort
attribute [local irreducible] GoodW
section
variable {α:Type}(key:α→Str)
def placeK (l:List α) (t:Str):Nat→Nat
 | 0=>0
 | n+1=>match l[n]? with
  | some x=>if Lib.compareBytes t (key x)<0 then placeK l t n else n+1
  | none=>0
def insK (l:List α) (x:α):List α:=l.take (placeK key l (key x) l.length)++x::l.drop (placeK key l (key x) l.length)
def sortK (l:List α):List α:=l.foldl (insK key) []
theorem placeK_le (l:List α) (t:Str):∀ n,placeK key l t n≤n
 | 0=>Nat.le_refl _
 | n+1=>by
  simp only [placeK]
  split
  ·split
   ·exact Nat.le_succ_of_le (placeK_le l t n)
   ·exact Nat.le_refl _
  ·exact Nat.zero_le _
theorem insK_len (l:List α) (x:α):(insK key l x).length=l.length+1:=by
 have:=placeK_le key l (key x) l.length
 simp [insK];omega
theorem sortK_snoc (l:List α) (x:α):sortK key (l++[x])=insK key (sortK key l) x:=by simp [sortK]
theorem sortK_len (l:List α):(sortK key l).length=l.length:=by
 have h:∀ (l s:List α),(l.foldl (insK key) s).length=s.length+l.length:=by
  intro l
  induction l with
  | nil=>simp
  | cons x l ih=>intro s;simp only [List.foldl_cons,ih,insK_len,List.length_cons];omega
 have:=h l []
 simpa [sortK] using this
theorem insK_iff (l:List α) (x y:α):y∈insK key l x↔y∈l∨y=x:=by
 unfold insK
 rw [List.mem_append,List.mem_cons]
 constructor
 ·rintro (h | h | h)
  ·exact .inl (List.mem_of_mem_take h)
  ·exact .inr h
  ·exact .inl (List.mem_of_mem_drop h)
 ·rintro (h | h)
  ·rw [←List.take_append_drop (placeK key l (key x) l.length) l] at h
   rcases List.mem_append.1 h with h | h
   ·exact .inl h
   ·exact .inr (.inr h)
  ·exact .inr (.inl h)
theorem sortK_mem (l:List α) (y:α):y∈sortK key l↔y∈l:=by
 have h:∀ (l s:List α),y∈l.foldl (insK key) s↔y∈s∨y∈l:=by
  intro l
  induction l with
  | nil=>simp
  | cons x l ih=>intro s;rw [List.foldl_cons,ih,insK_iff,List.mem_cons,or_assoc]
 have:=h l []
 simpa [sortK] using this
end
def lineV (r:List Cell):List V:=[.sl (cellRows r) false]
def lineRows (l:List (List Cell)):List (List V):=l.map lineV
theorem lineRows_len (l:List (List Cell)):(lineRows l).length=l.length:=by simp [lineRows]
end Go.Sx.Sp
namespace Go.Sx.Sp
open Go Go.Sx Go.Proofs Go.Sort
attribute [local irreducible] GoodW
theorem cmp_self:∀ a:Str,Lib.compareBytes a a=0
 | []=>rfl
 | x::a=>by unfold Lib.compareBytes;rw [if_neg (by simp),if_neg (by simp)];exact cmp_self a
theorem cmp_eq:∀ {a b:Str},Lib.compareBytes a b=0→a=b
 | [],[],_=>rfl
 | [],_::_,h=>by simp [Lib.compareBytes] at h
 | _::_,[],h=>by simp [Lib.compareBytes] at h
 | x::a,y::b,h=>by
  unfold Lib.compareBytes at h
  split at h
  ·cases h
  ·split at h
   ·cases h
   ·rename_i h1 h2
    have:x=y:=by
     rw [UInt8.lt_iff_toNat_lt] at h1 h2
     exact UInt8.toNat_inj.1 (by omega)
    rw [this,cmp_eq h]
theorem cmp_neg:∀ a b:Str,Lib.compareBytes b a=- Lib.compareBytes a b
 | [],[]=>rfl
 | [],_::_=>rfl
 | _::_,[]=>rfl
 | x::a,y::b=>by
  unfold Lib.compareBytes
  by_cases h1:x<y
  ·have h2:¬ y<x:=by rw [UInt8.lt_iff_toNat_lt] at *;omega
   simp [h1,h2]
  ·by_cases h2:y<x
   ·simp [h1,h2]
   ·simp [h1,h2,cmp_neg a b]
theorem cmp_trans:∀ {a b c:Str},Lib.compareBytes a b<0→Lib.compareBytes b c<0→Lib.compareBytes a c<0
 | [],[],_,h,_=>by simp [Lib.compareBytes] at h
 | [],_::_,[],_,h=>by simp [Lib.compareBytes] at h
 | [],_::_,_::_,_,_=>by simp [Lib.compareBytes]
 | _::_,[],_,h,_=>by simp [Lib.compareBytes] at h
 | _::_,_::_,[],_,h=>by simp [Lib.compareBytes] at h
 | x::a,y::b,z::c,h,g=>by
  unfold Lib.compareBytes at h g ⊢
  by_cases h1:x<y
  ·by_cases g1:y<z
   ·rw [if_pos (by rw [UInt8.lt_iff_toNat_lt] at *;omega)];decide
   ·rw [if_neg g1] at g
    split at g
    ·simp at g
    ·rename_i g2
     rw [if_pos (by rw [UInt8.lt_iff_toNat_lt] at *;omega)];decide
  ·rw [if_neg h1] at h
   split at h
   ·simp at h
   ·rename_i h2
    by_cases g1:y<z
    ·rw [if_pos (by rw [UInt8.lt_iff_toNat_lt] at *;omega)];decide
    ·rw [if_neg g1] at g
     split at g
     ·simp at g
     ·rename_i g2
      rw [if_neg (by rw [UInt8.lt_iff_toNat_lt] at *;omega),if_neg (by rw [UInt8.lt_iff_toNat_lt] at *;omega)]
      exact cmp_trans h g
section
variable {α:Type}(key:α→Str)
def AscK (l:List α):Prop:=l.Pairwise fun a b=>Lib.compareBytes (key a) (key b)<0
variable {key}
theorem ascK_ext:∀ {a b:List α},AscK key a→AscK key b→(∀ t,t∈a↔t∈b)→a=b
 | [],[],_,_,_=>rfl
 | [],y::b,_,_,h=>by have:=(h y).2 (by simp);cases this
 | x::a,[],_,_,h=>by have:=(h x).1 (by simp);cases this
 | x::a,y::b,ha,hb,h=>by
  obtain ⟨ha1,ha2⟩:=List.pairwise_cons.1 ha
  obtain ⟨hb1,hb2⟩:=List.pairwise_cons.1 hb
  have hirr:∀ {u v:α},Lib.compareBytes (key u) (key v)<0→Lib.compareBytes (key v) (key u)<0→False:=fun h1 h2=>by
   rw [cmp_neg] at h2;omega
  have hself:∀ {u:α},Lib.compareBytes (key u) (key u)<0→False:=fun h1=>by rw [cmp_self] at h1;omega
  have hxy:x=y:=by
   rcases List.mem_cons.1 ((h x).1 (by simp)) with e | e
   ·exact e
   ·rcases List.mem_cons.1 ((h y).2 (by simp)) with e' | e'
    ·exact e'.symm
    ·exact (hirr (hb1 x e) (ha1 y e')).elim
  subst hxy
  congr 1
  refine ascK_ext ha2 hb2 fun t=>⟨fun ht=>?_,fun ht=>?_⟩
  ·rcases List.mem_cons.1 ((h t).1 (List.mem_cons_of_mem _ ht)) with e | e
   ·subst e;exact (hself (ha1 _ ht)).elim
   ·exact e
  ·rcases List.mem_cons.1 ((h t).2 (List.mem_cons_of_mem _ ht)) with e | e
   ·subst e;exact (hself (hb1 _ ht)).elim
   ·exact e
theorem placeK_spec (l:List α) (t:Str):∀ n,n≤l.length→(∀ j (h:j<l.length),placeK key l t n≤j→j<n→Lib.compareBytes t (key l[j])<0)∧(∀ j (h:j<l.length),placeK key l t n=j+1→¬ Lib.compareBytes t (key l[j])<0)
 | 0,_=>⟨fun j _ _ h=>by omega,fun j _ h=>by simp [placeK] at h⟩
 | n+1,hn=>by
  have hg:l[n]?=some l[n]:=List.getElem?_eq_getElem (by omega)
  obtain ⟨h1,h2⟩:=placeK_spec l t n (by omega)
  simp only [placeK,hg]
  split
  ·rename_i hlt
   refine ⟨fun j hj hk hjn=>?_,h2⟩
   by_cases e:j=n
   ·subst e;exact hlt
   ·exact h1 j hj hk (by omega)
  ·rename_i hge
   refine ⟨fun j hj hk hjn=>by omega,fun j hj hk=>?_⟩
   have:j=n:=by omega
   subst this;exact hge
theorem insK_asc {l:List α}(h:AscK key l) {x:α}(hn:∀ y∈l,key y≠key x):AscK key (insK key l x):=by
 obtain ⟨h1,h2⟩:=placeK_spec (key:=key) l (key x) l.length (Nat.le_refl _)
 have hle:=placeK_le key l (key x) l.length
 have below:∀ k (hk:k<l.length),k<placeK key l (key x) l.length→Lib.compareBytes (key l[k]) (key x)<0:=fun k hk hki=>by
  obtain ⟨p,hp⟩:∃ p,placeK key l (key x) l.length=p+1:=⟨placeK key l (key x) l.length-1,by omega⟩
  have h3:=h2 p (by omega) hp
  have hne:=hn _ (List.getElem_mem (show p<l.length by omega))
  have h4:Lib.compareBytes (key l[p]) (key x)<0:=by
   rw [cmp_neg]
   have h6:Lib.compareBytes (key x) (key l[p])≠0:=fun e=>hne (cmp_eq e).symm
   omega
  by_cases e:k=p
  ·subst e;exact h4
  ·exact cmp_trans ((List.pairwise_iff_getElem.1 h) k p hk (by omega) (by omega)) h4
 unfold AscK insK
 rw [List.pairwise_append]
 refine ⟨h.sublist (List.take_sublist _ _),List.pairwise_cons.2 ⟨fun y hy=>?_,h.sublist (List.drop_sublist _ _)⟩,fun a ha b hb=>?_⟩
 ·obtain ⟨k,hk,rfl⟩:=List.mem_iff_getElem.1 hy
  simp only [List.length_drop] at hk
  rw [List.getElem_drop]
  exact h1 _ (by omega) (by omega) (by omega)
 ·obtain ⟨k,hk,rfl⟩:=List.mem_iff_getElem.1 ha
  simp only [List.length_take] at hk
  rw [List.getElem_take]
  have h3:=below k (by omega) (by omega)
  rcases List.mem_cons.1 hb with rfl | hb
  ·exact h3
  ·obtain ⟨q,hq,rfl⟩:=List.mem_iff_getElem.1 hb
   simp only [List.length_drop] at hq
   rw [List.getElem_drop]
   exact cmp_trans h3 (h1 _ (by omega) (by omega) (by omega))
def DistK (key:α→Str) (l:List α):Prop:=l.Pairwise fun a b=>key a≠key b
theorem sortK_asc {l:List α}(h:DistK key l):AscK key (sortK key l):=by
 have go:∀ (l s:List α),AscK key s→(∀ y∈s,∀ x∈l,key y≠key x)→DistK key l→AscK key (l.foldl (insK key) s):=by
  intro l
  induction l with
  | nil=>intro s hs _ _;exact hs
  | cons x l ih =>
   intro s hs hd hp
   obtain ⟨p1,p2⟩:=List.pairwise_cons.1 hp
   rw [List.foldl_cons]
   refine ih _ (insK_asc hs fun y hy=>hd y hy x (by simp)) (fun y hy z hz=>?_) p2
   rcases (insK_iff key _ _ _).1 hy with hy | rfl
   ·exact hd y hy z (List.mem_cons_of_mem _ hz)
   ·exact p1 z hz
 exact go l [] List.Pairwise.nil (fun y hy=>by cases hy) h
theorem sortK_one {l m:List α}(h:DistK key l) (g:DistK key m) (hm:∀ x,x∈l↔x∈m):sortK key l=sortK key m:=
 ascK_ext (sortK_asc h) (sortK_asc g) fun t=>by rw [sortK_mem,sortK_mem,hm]
end
def cmpK {α:Type}(key:α→Str) (a b:α):Int:=Lib.compareBytes (key a) (key b)
theorem cmpK_swo {α:Type}(key:α→Str):SWO (ltOf (cmpK key)):=by
 refine ⟨fun x=>?_,fun x y z h1 h2=>?_,fun x y z h1 h2=>?_⟩
 ·unfold ltOf cmpK;rw [cmp_self];rfl
 ·unfold ltOf cmpK at *;exact decide_eq_true (cmp_trans (of_decide_eq_true h1) (of_decide_eq_true h2))
 ·unfold ltOf cmpK at *
  rw [decide_eq_false_iff_not] at h1 h2 ⊢
  intro h3
  by_cases e1:Lib.compareBytes (key x) (key y)=0
  ·rw [cmp_eq e1] at h3;exact h2 h3
  ·have g1:Lib.compareBytes (key y) (key x)<0:=by rw [cmp_neg];omega
   exact h2 (cmp_trans g1 h3)
theorem cmpK_tot {α:Type}{key:α→Str}(hinj:∀ a b:α,key a=key b→a=b) (a b:α) (h1:ltOf (cmpK key) a b=false) (h2:ltOf (cmpK key) b a=false):a=b:=by
 unfold ltOf cmpK at h1 h2
 rw [decide_eq_false_iff_not] at h1 h2
 rw [cmp_neg] at h2
 exact hinj a b (cmp_eq (by omega))
theorem cmpK_asc {α:Type}{key:α→Str}(l:List α) (hd:DistK key l):AscK key (l.mergeSort fun a b=>!(ltOf (cmpK key) b a)):=by
 have hp:=List.mergeSort_perm l fun a b=>!(ltOf (cmpK key) b a)
 have hs:(l.mergeSort fun a b=>!(ltOf (cmpK key) b a)).Pairwise fun a b=>(!(ltOf (cmpK key) b a))=true:=by
  refine List.pairwise_mergeSort (fun a b c h1 h2=>?_) (fun a b=>?_) l
  ·simp only [Bool.not_eq_true'] at *
   exact (cmpK_swo key).ntrans _ _ _ h2 h1
  ·simp only [Bool.or_eq_true,Bool.not_eq_true']
   unfold ltOf cmpK
   rw [decide_eq_false_iff_not,decide_eq_false_iff_not,cmp_neg (key a) (key b)]
   omega
 have hd2:DistK key (l.mergeSort fun a b=>!(ltOf (cmpK key) b a)):=by
  unfold DistK at *
  exact (hp.pairwise_iff (fun h e=>h e.symm)).2 hd
 unfold AscK
 refine (hs.and hd2).imp fun {a b} h=>?_
 obtain ⟨h1,h2⟩:=h
 simp only [Bool.not_eq_true'] at h1
 unfold ltOf cmpK at h1
 rw [decide_eq_false_iff_not,cmp_neg (key a) (key b)] at h1
 have h3:Lib.compareBytes (key a) (key b)≠0:=fun e=>h2 (cmp_eq e)
 omega
theorem cell_sortFunc_spec (l:List Cell) (h0:∀ c∈l,c.null=false) (hd:DistK Cell.text l) (hn:l.length<4611686018427387904):Spec Tryd.prog 49 [.osl 0 0 0 (cellRows l).length (cellRows l).length,.fn 50 []] [(0,.rows 2 (cellRows l) (some []))] (.tup []) [(0,.rows 2 (cellRows (sortK Cell.text l)) (some []))]:=by
 have h:=sortFunc_spec Tryd.sortCell 2 (by decide) Tryd.isAgg40 Tryd.sizeOf40 (fun s:Str=>(⟨false,s⟩:Cell).row) (fun _=>rfl) (cmpK id) (cmpK_swo id) (cmpK_tot fun a b e=>e) 50 [] (fun u hu=>by cases hu)
  (fun a b=>texts_spec ⟨false,a⟩ ⟨false,b⟩) (l.map Cell.text) (by simpa using hn)
 have hc:∀ m:List Cell,(∀ c∈m,c.null=false)→(m.map Cell.text).map (fun s:Str=>(⟨false,s⟩:Cell).row)=cellRows m:=fun m hm=>by
  unfold cellRows
  rw [List.map_map]
  refine List.map_congr_left fun c hc=>?_
  show (⟨false,c.text⟩:Cell).row=c.row
  rw [←hm c hc]
 have hT:(l.map Cell.text).mergeSort (fun a b=>!(ltOf (cmpK id) b a))=(sortK Cell.text l).map Cell.text:=by
  refine ascK_ext (key:=id) (cmpK_asc _ ?_) ?_ fun t=>?_
  ·unfold DistK;rw [List.pairwise_map];exact hd
  ·unfold AscK;rw [List.pairwise_map];exact sortK_asc hd
  ·rw [(List.mergeSort_perm _ _).mem_iff]
   simp only [List.mem_map,sortK_mem]
 rw [hT,hc l h0,hc _ fun c hc=>h0 c ((sortK_mem _ _ _).1 hc)] at h
 exact h
theorem line_sortFunc_spec (k:Nat) (l:List (List Cell)) (hd:DistK (keyAt k) l) (hn:l.length<4611686018427387904) (hk:∀ r∈l,k<r.length):Spec Tryd.prog 51 [.osl 0 0 0 (lineRows l).length (lineRows l).length,.fn 52 [.ro [.int .i64 k] 0]] [(0,.rows 1 (lineRows l) (some []))] (.tup []) [(0,.rows 1 (lineRows (sortK (keyAt k) l)) (some []))]:=by
 have hinj:∀ a b:{r // r∈l},keyAt k a.1=keyAt k b.1→a=b:=fun a b e=>by
  obtain ⟨i,hi,hi'⟩:=List.mem_iff_getElem.1 a.2
  obtain ⟨j,hj,hj'⟩:=List.mem_iff_getElem.1 b.2
  have hp:=List.pairwise_iff_getElem.1 hd
  refine Subtype.ext ?_
  rw [←hi',←hj'] at e ⊢
  rcases Nat.lt_trichotomy i j with h1 | h1 | h1
  ·exact absurd e (hp i j hi hj h1)
  ·subst h1;rfl
  ·exact absurd e.symm (hp j i hj hi h1)
 have h:=sortOne_spec Tryd.sortLine (fun r:{r // r∈l}=>V.sl (cellRows r.1) false) (cmpK fun r=>keyAt k r.1) (cmpK_swo _) (cmpK_tot hinj) 52 [.ro [.int .i64 k] 0] (fun u hu=>by simp at hu;subst hu;rfl)
  (fun a b=>byCol_spec k a.1 b.1 (hk _ a.2) (hk _ b.2)) l.attach (by simpa using hn)
 have hc:∀ m:List {r // r∈l},oneR (fun r:{r // r∈l}=>V.sl (cellRows r.1) false) m=lineRows (m.map Subtype.val):=fun m=>by
  unfold oneR lineRows
  rw [List.map_map]
  rfl
 have hT:(l.attach.mergeSort (fun a b=>!(ltOf (cmpK fun r=>keyAt k r.1) b a))).map Subtype.val=sortK (keyAt k) l:=by
  refine ascK_ext (key:=keyAt k) ?_ (sortK_asc hd) fun t=>?_
  ·unfold AscK
   rw [List.pairwise_map]
   refine cmpK_asc (key:=fun r:{r // r∈l}=>keyAt k r.1) _ ?_
   unfold DistK
   have:(l.attach.map Subtype.val).Pairwise fun a b=>keyAt k a≠keyAt k b:=by rw [List.attach_map_subtype_val];exact hd
   rw [List.pairwise_map] at this
   exact this
  ·rw [sortK_mem]
   simp only [List.mem_map,(List.mergeSort_perm _ _).mem_iff]
   constructor
   ·rintro ⟨x,_,rfl⟩;exact x.2
   ·intro ht;exact ⟨⟨t,ht⟩,List.mem_attach _ _,rfl⟩
 rw [hc,hc,hT,List.attach_map_subtype_val] at h
 exact h
set_option maxHeartbeats 4000000 in
theorem sorted_spec (D:List Cell) (A:List (List Cell)) (k:Nat) (h0:∀ c∈D,c.null=false) (dD:DistK Cell.text D) (dA:DistK (keyAt k) A) (hD:D.length<4611686018427387904) (hA:A.length<4611686018427387904) (hk:∀ r∈A,k<r.length) :
  Spec Tryd.prog 31 [.agg [.osl 0 0 0 (cellRows D).length (cellRows D).length,.osl 1 0 0 (lineRows A).length (lineRows A).length],.int .i64 k] [(0,.rows 2 (cellRows D) (some [])),(1,.rows 1 (lineRows A) (some []))]
   (.agg [.osl 0 0 0 (cellRows D).length (cellRows D).length,.osl 1 0 0 (lineRows A).length (lineRows A).length]) [(0,.rows 2 (cellRows (sortK Cell.text D)) (some [])),(1,.rows 1 (lineRows (sortK (keyAt k) A)) (some []))]:=by
 have sp1:=cell_sortFunc_spec D h0 dD hD
 have sp2:=line_sortFunc_spec k A dA hA hk
 refine gEn env Tryd.func31 fun Γ hN hK hML=>?_
 (refine gGo ?_;intros)
 (refine gCA [(0,0)] [] [] (sp1) ?_;conv=>whnf)
 (refine gGs ?_;intros)
 refine gA ?_
 refine W.leG (mp:=[(0,0),(1,1),(2,2),(4,4)]) (bo:=[3]) (st':=⟨[(2,.bp 2 0),(3,.ro [.int .i64 k] 0),(4,.bp 4 0)],[(0,[.rows 2 (cellRows (sortK Cell.text D)) (some [])]),(1,[.rows 1 (lineRows A) (some [])]),(2,[.rows 2 [[.osl 0 0 0 (cellRows D).length (cellRows D).length,.osl 1 0 0 (lineRows A).length (lineRows A).length]] none]),(4,[.rows 2 [[.nils,.nils]] none])],[0,1,2,4]⟩)
  (LeG.mk' rfl rfl rfl ⟨⟨_,.refl _,rfl⟩,⟨_,.bp 3 0 1 [.int .i64 k] none rfl rfl (by simp) (.inr rfl),rfl⟩,⟨_,.refl _,rfl⟩,trivial⟩ (.ci 0 (.ci 1 (.ci 2 (.ci 4 .nil)))) rfl rfl (by rw [hK];rfl)) ?_
 (refine gGo ?_;intros)
 (refine gCA [(0,1)] [] [] (sp2) ?_;conv=>whnf)
 (refine gGo ?_;intros)
 (refine gM ?_;conv=>whnf)
 exact retH rfl (.refl _) rfl rfl rfl ⟨rfl,rfl,rfl,rfl,trivial⟩
end Go.Sx.Sp
namespace Go.Sx.Sp
open Go Go.Sx Go.Proofs
attribute [local irreducible] GoodW
def inB (key:Int) (t:Table):Bool:=decide (0≤key∧key<t.cols.length)
def colK (t:Table) (k:Nat):List Cell:=(t.cols.getD k ⟨[],[]⟩).cells
def checkM (key:Int) (ts:List Table):Int:=if ts.all (inB key)=true then (if ts.all (fun t=>keyB (colK t key.toNat))=true then 0 else 20) else 2
theorem all_snoc {α:Type}(p:α→Bool) {l:List α}{j:Nat}(h:j<l.length):(l.take (j+1)).all p=((l.take j).all p&&p l[j]):=by
 rw [List.take_succ_eq_append_getElem h,List.all_append];simp
theorem all_false {α:Type}{p:α→Bool}{l:List α}{j:Nat}(h:j<l.length) (hp:p l[j]=false):l.all p=false:=by
 rw [List.all_eq_false];exact ⟨_,List.getElem_mem h,by simp [hp]⟩
set_option maxHeartbeats 4000000 in
theorem check_spec (key:Int) (ts:List Table):Spec Tryd.prog 38 [.int .i64 key,.sl (tblRows ts) false] [] (.int .i64 (checkM key ts)) []:=by
 have hl:=tblRows_len ts
 refine gEn env Tryd.func38 fun Γ hN hK hML=>?_
 (refine gGo ?_;intros)
 refine W.loopG (fun n st=>∃ j:Nat,j≤ts.length∧(ts.take j).all (inB key)=true∧n=ts.length-j∧st=⟨[(0,.int .i64 key),(1,.sl (tblRows ts) false),(9,.sl (tblRows ts) false),(10,.int .i64 (tblRows ts).length),(11,.int .i64 j)],[],[]⟩)
  ts.length _ ⟨0,by omega,rfl,by omega,rfl⟩ ⟨[],[],[],.mq .nil⟩ ?_
 rintro n st ⟨j,hj,hall,rfl,rfl⟩
 (refine gGo ?_;intros)
 refine boolRes_split (fun hb=>?_) (fun hb=>?_)<;>conv=>whnf
 ·have hlt:j<ts.length:=by omega
  have hg:=tblRows_get hlt
  have hsn:=all_snoc (inB key) hlt
  have hcl:=colRows_len ts[j].cols
  have hbad:inB key ts[j]=false→(2:Int)=checkM key ts:=fun h=>by
   unfold checkM;rw [all_false hlt h];rfl
  (refine gGo ?_;intros)
  refine rowAt_of (by simpa using hg) ?_
  conv=>whnf
  (refine gGo ?_;intros)
  refine boolRes_split (fun hb=>?_) (fun hb=>?_)<;>conv=>whnf
  ·(refine gGr ?_;intros)
   exact ret0 rfl (congrArg (V.int .i64) (hbad (by unfold inB;rw [decide_eq_false];omega))) rfl
  ·(refine gGo ?_;intros)
   refine boolRes_split (fun hb=>?_) (fun hb=>?_)<;>conv=>whnf
   ·(refine gGr ?_;intros)
    exact ret0 rfl (congrArg (V.int .i64) (hbad (by unfold inB;rw [decide_eq_false];omega))) rfl
   ·(refine gGo ?_;intros)
    refine ⟨_,_,?_,⟨j+1,by omega,by rw [hsn,hall];unfold inB;simp;omega,rfl,rfl⟩,⟨[],[],[],.mq .nil⟩⟩
    omega
 ·have hje:j=ts.length:=by omega
  rw [hje,List.take_length] at hall
  (refine gGo ?_;intros)
  refine W.loopG (fun n st=>∃ j:Nat,j≤ts.length∧(ts.take j).all (fun t=>keyB (colK t key.toNat))=true∧n=ts.length-j∧st=⟨[(0,.int .i64 key),(25,.sl (tblRows ts) false),(26,.int .i64 (tblRows ts).length),(27,.int .i64 j)],[],[]⟩)
   ts.length _ ⟨0,by omega,rfl,by omega,rfl⟩ ⟨[],[],[],.mq .nil⟩ ?_
  rintro n st ⟨j,hj,hall2,rfl,rfl⟩
  (refine gGo ?_;intros)
  refine boolRes_split (fun hb=>?_) (fun hb=>?_)<;>conv=>whnf
  ·have hlt:j<ts.length:=by omega
   have hg:=tblRows_get hlt
   have hsn:=all_snoc (fun t=>keyB (colK t key.toNat)) hlt
   have hin:=List.all_eq_true.1 hall _ (List.getElem_mem hlt)
   have hbad:keyB (colK ts[j] key.toNat)=false→(20:Int)=checkM key ts:=fun h=>by
    unfold checkM;rw [if_pos hall,all_false (p:=fun t=>keyB (colK t key.toNat)) hlt h];rfl
   unfold inB at hin
   have hin:=of_decide_eq_true hin
   obtain ⟨k,rfl⟩:∃ k:Nat,key=k:=⟨key.toNat,by omega⟩
   have hkl:k<ts[j].cols.length:=by omega
   have hck:colK ts[j] k=ts[j].cols[k].cells:=by simp [colK,hkl]
   have sp:=isKey_spec ts[j] k hkl
   simp only [Int.toNat_natCast] at hsn hbad
   rw [←hck] at sp
   generalize ts[j]=t at *
   (refine gGo ?_;intros)
   refine rowAt_of (by simpa using hg) ?_
   conv=>whnf
   (refine gGo ?_;intros)
   cases hb2:keyB (colK t k) with
   | true =>
    rw [hb2] at sp
    (refine gPC (sp) ?_;conv=>whnf)
    (refine gGo ?_;intros)
    refine ⟨_,_,?_,⟨j+1,by omega,by simp only [Int.toNat_natCast];rw [hsn,hb2];simpa using hall2,rfl,rfl⟩,⟨[],[],[],.mq .nil⟩⟩
    omega
   | false =>
    rw [hb2] at sp
    (refine gPC (sp) ?_;conv=>whnf)
    (refine gGr ?_;intros)
    exact ret0 rfl (congrArg (V.int .i64) (hbad hb2)) rfl
  ·have hje2:j=ts.length:=by omega
   rw [hje2,List.take_length] at hall2
   (refine gGr ?_;intros)
   exact ret0 rfl (congrArg (V.int .i64) (by unfold checkM;rw [if_pos hall,if_pos hall2])) rfl
structure Delta where
 drop:List Cell
 add:List (List Cell)
 deriving DecidableEq
def Delta.row (d:Delta):List V:=[.sl (cellRows d.drop) false,.sl (lineRows d.add) false]
def Delta.zero:Delta:=⟨[],[]⟩
def cellI (cs:List Cell) (i:Nat):Cell:=cs.getD i ⟨false,[]⟩
def diffB (a b:Table) (k:Nat) (t:Str) (i:Nat):Bool:=
 match ixS t (textsOf (colK b k)) with
 | none=>true
 | some j=>decide (rowM a i≠rowM b j)
def dropOf (a b:Table) (k:Nat) (seen:List Nat):List Cell:=(seen.filter fun i=>diffB a b k (cellI (colK a k) i).text i).map (cellI (colK a k))
def addOf (a b:Table) (k:Nat) (seen:List Nat):List (List Cell):=(seen.filter fun i=>diffB b a k (cellI (colK b k) i).text i).map (rowM b)
def diffM (a b:Table) (k:Nat):Delta:=⟨sortK Cell.text (dropOf a b k (List.range (colK a k).length)),sortK (keyAt k) (addOf a b k (List.range (colK b k).length))⟩
def ofM (a b:Table) (key:Int):Delta×Int:=
 if validB a=true∧validB b=true∧namesOf a.cols=namesOf b.cols then
  if checkM key [a,b]=0 then (diffM a b key.toNat,0) else (Delta.zero,checkM key [a,b])
 else (Delta.zero,1)
theorem valid_cells {t:Table}(h:validB t=true):∀ c∈t.cols,c.cells.length=rowsN t:=by
 simp only [validB,headB,Bool.and_eq_true,decide_eq_true_eq,Bool.not_eq_true',List.any_eq_false] at h
 intro c hc
 have h6:=h.2 c hc
 simp only [badCol,Bool.or_eq_true,decide_eq_true_eq,not_or,Decidable.not_not] at h6
 omega
theorem ixMap_get {l:List Str}{j b:Nat}{kk v:V}(h:(ixMap l)[j]?=some (b,kk,v)):∃ hj:j<l.length,b=j∧kk=.str l[j]∧v=.int .i64 (j:Nat):=by
 have key:∀ (l:List Str) (k j:Nat),(mapG (fun i=>.int .i64 i) k l)[j]?=some (b,kk,v)→∃ hj:j<l.length,b=k+j∧kk=.str l[j]∧v=.int .i64 ((k+j:Nat):Int):=by
  intro l
  induction l with
  | nil=>intro k j h;simp [mapG] at h
  | cons s l ih =>
   intro k j h
   cases j with
   | zero =>
    simp only [mapG,List.getElem?_cons_zero,Option.some.injEq,Prod.mk.injEq] at h
    obtain ⟨rfl,rfl,rfl⟩:=h
    exact ⟨by simp,rfl,rfl,rfl⟩
   | succ j =>
    simp only [mapG,List.getElem?_cons_succ] at h
    obtain ⟨h1,h2,h3,h4⟩:=ih (k+1) j h
    refine ⟨by simp;omega,by omega,by simpa using h3,?_⟩
    rw [h4,show k+1+j=k+(j+1) by omega]
 obtain ⟨h1,h2,h3,h4⟩:=key l 0 j h
 exact ⟨h1,by omega,h3,by rw [h4,Nat.zero_add]⟩
theorem ixMap_at {l:List Str}{j:Nat}(hj:j<l.length):(ixMap l)[j]?=some (j,.str l[j],.int .i64 (j:Nat)):=by
 have hl:=mapG_len (fun i=>.int .i64 i) l 0
 obtain ⟨⟨b,kk,v⟩,h⟩:∃ p,(ixMap l)[j]?=some p:=⟨_,List.getElem?_eq_getElem (by unfold ixMap;omega)⟩
 obtain ⟨_,h1,h2,h3⟩:=ixMap_get h
 rw [h,h1,h2,h3]
theorem ixMap_look (t:Str) (l:List Str):mapAt (.str t) (ixMap l)=some ((ixS t l).map fun i=>(i,i,.int .i64 (i:Nat))):=by
 unfold ixMap;rw [mapG_at];simp
theorem validB_few {t:Table}(h:validB t=true):t.Few:=by
 simp only [validB,headB,Bool.and_eq_true,decide_eq_true_eq,Bool.not_eq_true',List.any_eq_false] at h
 obtain ⟨⟨⟨⟨h1,h2⟩,h3⟩,h4⟩,h5⟩:=h
 refine ⟨by omega,fun c hc=>?_⟩
 have h6:=h5 c hc
 simp only [badCol,Bool.or_eq_true,decide_eq_true_eq,not_or,Decidable.not_not] at h6
 omega
theorem validB_n {t:Table}(h:validB t=true):rowsN t≤65536:=by
 simp only [validB,headB,Bool.and_eq_true,decide_eq_true_eq,Bool.not_eq_true',List.any_eq_false] at h
 obtain ⟨⟨⟨⟨h1,h2⟩,h3⟩,h4⟩,h5⟩:=h
 omega
theorem nodup_get {cs:List Cell}(h:(textsOf cs).Nodup) {i j:Nat}(hi:i<cs.length) (hj:j<cs.length) (e:(cellI cs i).text=(cellI cs j).text):i=j:=by
 have e1:cellI cs i=cs[i]:=by simp [cellI,hi]
 have e2:cellI cs j=cs[j]:=by simp [cellI,hj]
 rw [e1,e2] at e
 have hp:=List.pairwise_iff_getElem.1 h
 rcases Nat.lt_trichotomy i j with h1 | h1 | h1
 ·exact absurd (by simpa [textsOf] using e) (hp i j (by simp [textsOf];omega) (by simp [textsOf];omega) h1)
 ·exact h1
 ·exact absurd (by simpa [textsOf] using e.symm) (hp j i (by simp [textsOf];omega) (by simp [textsOf];omega) h1)
structure Seen (n:Nat) (seen:List Nat):Prop where
 nd:seen.Nodup
 lt:∀ i∈seen,i<n
theorem Seen.nil (n:Nat):Seen n []:=⟨List.nodup_nil,fun i h=>by cases h⟩
theorem Seen.snoc {n:Nat}{seen:List Nat}(h:Seen n seen) {j:Nat}(hj:j<n) (hn:j∉seen):Seen n (seen++[j]):=by
 refine ⟨List.nodup_append.2 ⟨h.nd,by simp,fun a ha b hb=>?_⟩,fun i hi=>?_⟩
 ·simp at hb;subst hb;exact fun e=>hn (e ▸ ha)
 ·rcases List.mem_append.1 hi with h1 | h1
  ·exact h.lt i h1
  ·simp at h1;omega
theorem Seen.len {n:Nat}{seen:List Nat}(h:Seen n seen):seen.length≤n:=by
 have h1:seen ⊆ List.range n:=fun i hi=>List.mem_range.2 (h.lt i hi)
 have:=h.nd.length_le_of_subset h1
 simpa using this
theorem filter_dist {α:Type}{key:α→Str}{f:Nat→α}{n:Nat}{l:List Nat}(h:Seen n l) (hf:∀ i j,i<n→j<n→key (f i)=key (f j)→i=j) (p:Nat→Bool):DistK key ((l.filter p).map f):=by
 unfold DistK
 rw [List.pairwise_map]
 have h1:(l.filter p).Nodup:=h.nd.sublist List.filter_sublist
 rw [List.nodup_iff_pairwise_ne] at h1
 rw [List.pairwise_iff_getElem] at h1 ⊢
 intro i j hi hj hij e
 have m1:=(List.mem_filter.1 (List.getElem_mem hi)).1
 have m2:=(List.mem_filter.1 (List.getElem_mem hj)).1
 exact h1 i j hi hj hij (hf _ _ (h.lt _ m1) (h.lt _ m2) e)
theorem sort_seen {α:Type}{key:α→Str}{f:Nat→α}{n:Nat}{l:List Nat}(h:Seen n l) (hall:∀ i,i<n→i∈l) (hf:∀ i j,i<n→j<n→key (f i)=key (f j)→i=j) (p:Nat→Bool) :
  sortK key ((l.filter p).map f)=sortK key (((List.range n).filter p).map f):=by
 have hr:Seen n (List.range n):=⟨List.nodup_range,fun i hi=>List.mem_range.1 hi⟩
 refine sortK_one (filter_dist h hf p) (filter_dist hr hf p) fun x=>?_
 simp only [List.mem_map,List.mem_filter]
 constructor
 ·rintro ⟨i,⟨h1,h2⟩,rfl⟩;exact ⟨i,⟨List.mem_range.2 (h.lt i h1),h2⟩,rfl⟩
 ·rintro ⟨i,⟨h1,h2⟩,rfl⟩;exact ⟨i,⟨hall i (List.mem_range.1 h1),h2⟩,rfl⟩
theorem dropOf_snoc (a b:Table) (k:Nat) (seen:List Nat) (j:Nat):dropOf a b k (seen++[j])=if diffB a b k (cellI (colK a k) j).text j=true then dropOf a b k seen++[cellI (colK a k) j] else dropOf a b k seen:=by
 unfold dropOf
 rw [List.filter_append]
 by_cases h:diffB a b k (cellI (colK a k) j).text j=true<;>simp [h]
theorem addOf_snoc (a b:Table) (k:Nat) (seen:List Nat) (j:Nat):addOf a b k (seen++[j])=if diffB b a k (cellI (colK b k) j).text j=true then addOf a b k seen++[rowM b j] else addOf a b k seen:=by
 unfold addOf
 rw [List.filter_append]
 by_cases h:diffB b a k (cellI (colK b k) j).text j=true<;>simp [h]
theorem filt_len {α:Type}(f:Nat→α) (p:Nat→Bool) (l:List Nat):((l.filter p).map f).length≤l.length:=by simp;exact List.length_filter_le _ _
theorem keyAt_row {t:Table}{k i:Nat}(hk:k<t.cols.length):keyAt k (rowM t i)=(cellI (colK t k) i).text:=by
 simp [keyAt,rowM,colK,cellI,cellAt,hk]
theorem lineRows_snoc (a:List (List Cell)) (c:List Cell):lineRows (a++[c])=lineRows a++[lineV c]:=by simp [lineRows]
set_option maxHeartbeats 16000000 in
theorem of_spec (a b:Table) (key:Int):Spec Tryd.prog 17 [.agg a.row,.agg b.row,.int .i64 key] [] (.tup [.agg (ofM a b key).1.row,.int .i64 (ofM a b key).2]) []:=by
 have sp1:=equalNames_spec a.cols b.cols
 have sp2:=valid_spec a
 have sp3:=valid_spec b
 have sp4:=check_spec key [a,b]
 refine gEn env Tryd.func17 fun Γ hN hK hML=>?_
 by_cases hcond:validB a=true∧validB b=true∧namesOf a.cols=namesOf b.cols
 ·obtain ⟨ha,hb0,hnm⟩:=hcond
  rw [decide_eq_true hnm] at sp1
  rw [ha] at sp2
  rw [hb0] at sp3
  by_cases hck:checkM key [a,b]=0
  ·have hof:ofM a b key=(diffM a b key.toNat,0):=by simp [ofM,ha,hb0,hnm,hck]
   rw [hof]
   rw [hck] at sp4
   have hin:inB key a=true∧inB key b=true∧keyB (colK a key.toNat)=true∧keyB (colK b key.toNat)=true:=by
    unfold checkM at hck
    split at hck
    ·rename_i h1
     split at hck
     ·rename_i h2
      simp only [List.all_cons,List.all_nil,Bool.and_true,Bool.and_eq_true] at h1 h2
      exact ⟨h1.1,h1.2,h2.1,h2.2⟩
     ·simp at hck
    ·simp at hck
   obtain ⟨i1,i2,i3,i4⟩:=hin
   unfold inB at i1 i2
   have i1:=of_decide_eq_true i1
   have i2:=of_decide_eq_true i2
   obtain ⟨k,rfl⟩:∃ k:Nat,key=k:=⟨key.toNat,by omega⟩
   simp only [Int.toNat_natCast] at *
   have hka:k<a.cols.length:=by omega
   have hkb:k<b.cols.length:=by omega
   have eA:colK a k=a.cols[k].cells:=by simp [colK,hka]
   have eB:colK b k=b.cols[k].cells:=by simp [colK,hkb]
   have lA:(colK a k).length=rowsN a:=by rw [eA];exact valid_cells ha _ (List.getElem_mem hka)
   have lB:(colK b k).length=rowsN b:=by rw [eB];exact valid_cells hb0 _ (List.getElem_mem hkb)
   have hn:=validB_n ha
   have hm:=validB_n hb0
   have fewA:=(validB_few ha).cols
   have fewB:=(validB_few hb0).cols
   have f64a:a.cols.length≤4294967295:=by
    simp only [validB,headB,Bool.and_eq_true,decide_eq_true_eq] at ha;omega
   have f64b:b.cols.length≤4294967295:=by
    simp only [validB,headB,Bool.and_eq_true,decide_eq_true_eq] at hb0;omega
   obtain ⟨nA,dA⟩:=(keyB_iff _).1 i3
   obtain ⟨nB,dB⟩:=(keyB_iff _).1 i4
   have sp5:=byKey_spec a k hka (by rw [←eA];exact dA)
   have sp6:=byKey_spec b k hkb (by rw [←eB];exact dB)
   rw [←eA] at sp5
   rw [←eB] at sp6
   have rowA:∀ i,i<rowsN a→Spec Tryd.prog 30 [.agg a.row,.int .i64 (i:Nat)] [] (.sl (cellRows (rowM a i)) false) []:=fun i hi=>row_spec a i (fun c hc=>by rw [valid_cells ha c hc];exact hi) f64a
   have rowB:∀ i,i<rowsN b→Spec Tryd.prog 30 [.agg b.row,.int .i64 (i:Nat)] [] (.sl (cellRows (rowM b i)) false) []:=fun i hi=>row_spec b i (fun c hc=>by rw [valid_cells hb0 c hc];exact hi) f64b
   have tA:(textsOf (colK a k)).length=rowsN a:=by simp [textsOf,lA]
   have tB:(textsOf (colK b k)).length=rowsN b:=by simp [textsOf,lB]
   (refine gGo ?_;intros)
   (refine gPC (sp1) ?_;conv=>whnf)
   (refine gGo ?_;intros)
   (refine gPC (sp2) ?_;conv=>whnf)
   (refine gGo ?_;intros)
   (refine gPC (sp3) ?_;conv=>whnf)
   (refine gGo ?_;intros)
   (refine gPC (sp4) ?_;conv=>whnf)
   (refine gGo ?_;intros)
   (refine gCA [] [(8,50)] [] (sp5) ?_;conv=>whnf)
   (refine gGo ?_;intros)
   (refine gCA [] [(8,53)] [] (sp6) ?_;conv=>whnf)
   (refine gGo ?_;intros)
   refine W.ownCell 12 0 0 91 2 rfl rfl rfl rfl rfl ?_
   refine W.ownCell 12 0 1 92 1 rfl rfl rfl rfl rfl ?_
   refine W.loopG (fun n st=>∃ seen:List Nat,Seen (rowsN a) seen∧n=rowsN a-seen.length∧st=⟨[(2,.int .i64 k),(3,.bp 3 0),(4,.bp 4 0),(6,.bp 6 0),(10,.omap 50 0),(11,.omap 53 0),(12,.bp 12 0),(55,.bp 55 0)],(55,[.iter 50 0 (textsOf (colK a k)).length seen])::[(3,[.rows 3 [a.row] none]),(4,[.rows 3 [b.row] none]),(6,[.rows 2 [[.nils,.nils]] none]),(50,[.map (ixMap (textsOf (colK a k))) (textsOf (colK a k)).length (some [])]),(53,[.map (ixMap (textsOf (colK b k))) (textsOf (colK b k)).length (some [])]),(12,[.rows 2 [[.osl 91 0 0 (cellRows (dropOf a b k seen)).length (cellRows (dropOf a b k seen)).length,.osl 92 0 0 (lineRows (([]:List (List Cell)))).length (lineRows (([]:List (List Cell)))).length]] none]),(91,[.rows 2 (cellRows (dropOf a b k seen)) (some [])]),(92,[.rows 1 (lineRows (([]:List (List Cell)))) (some [])])],[3,4,6,50,53,12,55,91,92]⟩)
    (rowsN a) _ ⟨[],Seen.nil _,by simp,rfl⟩ ⟨[(55,55),(3,3),(4,4),(6,6),(50,50),(53,53),(12,12),(91,91),(92,92)],[],[],.mq (.ci 55 (.ci 3 (.ci 4 (.ci 6 (.ci 50 (.ci 53 (.ci 12 (.ci 91 (.ci 92 .nil)))))))))⟩ ?_
   rintro n st ⟨seen,hs,rfl,rfl⟩
   refine gA ?_
   refine W.nextMap env hN rfl rfl rfl (by kernel_rfl) rfl rfl rfl (fun hD=>?_) (fun j0 j kk v hj hb=>?_)
   ·have hall:∀ i,i<rowsN a→i∈seen:=fun i hi=>hD i i _ _ (ixMap_at (by omega))
    conv=>whnf
    (refine gGo ?_;intros)
    generalize hdr:dropOf a b k seen=dr
    refine W.loopG (fun n st=>∃ seen2:List Nat,Seen (rowsN b) seen2∧n=rowsN b-seen2.length∧st=⟨[(2,.int .i64 k),(3,.bp 3 0),(4,.bp 4 0),(6,.bp 6 0),(10,.omap 50 0),(11,.omap 53 0),(12,.bp 12 0),(87,.bp 87 0)],(87,[.iter 53 0 (textsOf (colK b k)).length seen2])::[(3,[.rows 3 [a.row] none]),(4,[.rows 3 [b.row] none]),(6,[.rows 2 [[.nils,.nils]] none]),(50,[.map (ixMap (textsOf (colK a k))) (textsOf (colK a k)).length (some [])]),(53,[.map (ixMap (textsOf (colK b k))) (textsOf (colK b k)).length (some [])]),(12,[.rows 2 [[.osl 91 0 0 (cellRows (dr)).length (cellRows (dr)).length,.osl 92 0 0 (lineRows (addOf a b k seen2)).length (lineRows (addOf a b k seen2)).length]] none]),(91,[.rows 2 (cellRows (dr)) (some [])]),(92,[.rows 1 (lineRows (addOf a b k seen2)) (some [])])],[3,4,6,50,53,12,87,91,92]⟩)
     (rowsN b) _ ⟨[],Seen.nil _,by simp,rfl⟩ ⟨[(87,87),(3,3),(4,4),(6,6),(50,50),(53,53),(12,12),(91,91),(92,92)],[],[],.mq (.ci 87 (.ci 3 (.ci 4 (.ci 6 (.ci 50 (.ci 53 (.ci 12 (.ci 91 (.ci 92 .nil)))))))))⟩ ?_
    rintro n st ⟨seen2,hs2,rfl,rfl⟩
    refine gA ?_
    refine W.nextMap env hN rfl rfl rfl (by kernel_rfl) rfl rfl rfl (fun hD=>?_) (fun j0 j kk v hj hb=>?_)
    ·have hall2:∀ i,i<rowsN b→i∈seen2:=fun i hi=>hD i i _ _ (ixMap_at (by omega))
     have hdl:dr.length<4611686018427387904:=by
      have h1:dr.length≤seen.length:=by rw [←hdr];exact filt_len _ _ _
      have:=hs.len;omega
     have hal:(addOf a b k seen2).length<4611686018427387904:=by
      have h1:(addOf a b k seen2).length≤seen2.length:=filt_len _ _ _
      have:=hs2.len;omega
     have dd:DistK Cell.text dr:=by rw [←hdr];exact filter_dist hs (fun i j hi hj e=>nodup_get dA (by omega) (by omega) e) _
     have da:DistK (keyAt k) (addOf a b k seen2):=filter_dist hs2 (fun i j hi hj e=>nodup_get dB (by omega) (by omega) (by rw [keyAt_row hkb,keyAt_row hkb] at e;exact e)) _
     have d0:∀ c∈dr,c.null=false:=fun c hc=>by
      rw [←hdr] at hc
      obtain ⟨i,hi,rfl⟩:=List.mem_map.1 hc
      have hi:=hs.lt _ (List.mem_filter.1 hi).1
      exact nA _ (by simp [cellI,show i<(colK a k).length by omega])
     have sp10:=sorted_spec dr (addOf a b k seen2) k d0 dd da hdl hal (fun r hr=>by
      unfold addOf at hr
      obtain ⟨i,_,rfl⟩:=List.mem_map.1 hr
      rw [rowM_len];exact hkb)
     conv=>whnf
     (refine gGo ?_;intros)
     (refine gCA [(0,91),(1,92)] [] [] (sp10) ?_;conv=>whnf)
     (refine gGo ?_;intros)
     have e1:sortK Cell.text dr=(diffM a b k).drop:=by
      rw [←hdr];unfold diffM dropOf;rw [lA]
      exact sort_seen hs hall (fun i j hi hj e=>nodup_get dA (by omega) (by omega) e) _
     have e2:sortK (keyAt k) (addOf a b k seen2)=(diffM a b k).add:=by
      unfold diffM addOf;rw [lB]
      exact sort_seen hs2 hall2 (fun i j hi hj e=>nodup_get dB (by omega) (by omega) (by rw [keyAt_row hkb,keyAt_row hkb] at e;exact e)) _
     have l1:(cellRows dr).length=(cellRows (diffM a b k).drop).length:=by rw [←e1];simp [cellRows,sortK_len]
     have l2:(lineRows (addOf a b k seen2)).length=(lineRows (diffM a b k).add).length:=by rw [←e2];simp [lineRows,sortK_len]
     rw [e1,e2]
     refine W.leG (mp:=[(6,6)]) (bo:=[91,92]) (st':=⟨[(6,.bp 6 0),(7,.int .i64 0)],[(6,[.rows 2 [(diffM a b k).row] none])],[6]⟩)
      (LeG.mq (.cons 6 (b1:=.rows 2 [(diffM a b k).row] none) rfl rfl (.rows _ _ _ ⟨⟨⟨Lent.whole rfl rfl l1 rfl (by first | exact .inl rfl | exact .inr rfl),rfl⟩,⟨Lent.whole rfl rfl l2 rfl (by first | exact .inl rfl | exact .inr rfl),rfl⟩,trivial⟩,trivial⟩) rfl .nil)) ?_
     (refine gM ?_;conv=>whnf)
     exact retH rfl (.refl _) rfl rfl rfl trivial
    ·obtain ⟨hjl,rfl,rfl,rfl⟩:=ixMap_get hj
     have hjb:j<rowsN b:=by omega
     have hjc:j<(colK b k).length:=by omega
     have hol:=lineRows_len (addOf a b k seen2)
     have hfl:(addOf a b k seen2).length≤seen2.length:=filt_len _ _ _
     have hsl:=hs2.len
     have hkj:(textsOf (colK b k))[j]=(cellI (colK b k) j).text:=by simp [textsOf,cellI,hjc]
     have sp9:=rowB j hjb
     conv=>whnf
     (refine gGo ?_;intros)
     refine ⟨seen2,j,j,.str _,.int .i64 j,rfl,ixMap_at hjl,rfl,?_⟩
     conv=>whnf
     rw [hkj]
     (refine gGo ?_;intros)
     refine zok_intro (by kernel_rfl) ?_
     conv=>whnf
     have hlk:=ixMap_look (cellI (colK b k) j).text (textsOf (colK a k))
     cases hx:ixS (cellI (colK b k) j).text (textsOf (colK a k)) with
     | none =>
      rw [hx] at hlk
      refine ⟨_,hlk,?_⟩
      conv=>whnf
      (refine gGo ?_;intros)
      have hd:diffB b a k (cellI (colK b k) j).text j=true:=by unfold diffB;rw [hx]
      (refine gPC (sp9) ?_;conv=>whnf)
      (refine gGo ?_;intros)
      refine ⟨⟨rowsSz_cons rfl rowsSz_nil,rfl⟩,fitsN (n:=(lineRows (addOf a b k seen2)).length+1) (b:=24) (by omega) (by omega),.inl ⟨rfl,rfl,?_⟩⟩
      conv=>whnf
      (refine gGo ?_;intros)
      refine ⟨_,_,?_,⟨seen2++[j],hs2.snoc hjb hb,rfl,rfl⟩,[(87,87),(3,3),(4,4),(6,6),(50,50),(53,53),(12,12),(91,91),(92,92)],[],[],LeG.mq (.ci 87 (.ci 3 (.ci 4 (.ci 6 (.ci 50 (.ci 53 (.cons 12 rfl rfl (.refl _) ?_ (.ci 91 (.cons 92 rfl rfl (.refl _) ?_ .nil)))))))))⟩
      ·have:=(hs2.snoc hjb hb).len;simp at this ⊢;omega
      ·rw [addOf_snoc,if_pos hd,lineRows_snoc,List.length_append];rfl
      ·rw [addOf_snoc,if_pos hd,lineRows_snoc];rfl
     | some i =>
      rw [hx] at hlk
      have hia:i<rowsN a:=by
       have:=(List.getElem?_eq_some_iff.1 (ixS_some hx)).1;omega
      have sp7:=equalCells_spec (rowM a i) (rowM b j)
      have sp8:=rowA i hia
      refine ⟨_,hlk,?_⟩
      conv=>whnf
      (refine gGo ?_;intros)
      (refine gPC (sp8) ?_;conv=>whnf)
      (refine gGo ?_;intros)
      (refine gPC (sp9) ?_;conv=>whnf)
      (refine gGo ?_;intros)
      by_cases he:rowM a i=rowM b j
      ·rw [decide_eq_true he] at sp7
       (refine gPC (sp7) ?_;conv=>whnf)
       (refine gGo ?_;intros)
       have hd:¬ diffB b a k (cellI (colK b k) j).text j=true:=by unfold diffB;rw [hx];simp [he]
       refine ⟨_,_,?_,⟨seen2++[j],hs2.snoc hjb hb,rfl,rfl⟩,[(87,87),(3,3),(4,4),(6,6),(50,50),(53,53),(12,12),(91,91),(92,92)],[],[],LeG.mq (.ci 87 (.ci 3 (.ci 4 (.ci 6 (.ci 50 (.ci 53 (.cons 12 rfl rfl (.refl _) ?_ (.ci 91 (.cons 92 rfl rfl (.refl _) ?_ .nil)))))))))⟩
       ·have:=(hs2.snoc hjb hb).len;simp at this ⊢;omega
       ·rw [addOf_snoc,if_neg hd];rfl
       ·rw [addOf_snoc,if_neg hd];rfl
      ·rw [decide_eq_false he] at sp7
       (refine gPC (sp7) ?_;conv=>whnf)
       (refine gGo ?_;intros)
       have hd:diffB b a k (cellI (colK b k) j).text j=true:=by unfold diffB;rw [hx];simp [Ne.symm he]
       (refine gPC (sp9) ?_;conv=>whnf)
       (refine gGo ?_;intros)
       refine ⟨⟨rowsSz_cons rfl rowsSz_nil,rfl⟩,fitsN (n:=(lineRows (addOf a b k seen2)).length+1) (b:=24) (by omega) (by omega),.inl ⟨rfl,rfl,?_⟩⟩
       conv=>whnf
       (refine gGo ?_;intros)
       refine ⟨_,_,?_,⟨seen2++[j],hs2.snoc hjb hb,rfl,rfl⟩,[(87,87),(3,3),(4,4),(6,6),(50,50),(53,53),(12,12),(91,91),(92,92)],[],[],LeG.mq (.ci 87 (.ci 3 (.ci 4 (.ci 6 (.ci 50 (.ci 53 (.cons 12 rfl rfl (.refl _) ?_ (.ci 91 (.cons 92 rfl rfl (.refl _) ?_ .nil)))))))))⟩
       ·have:=(hs2.snoc hjb hb).len;simp at this ⊢;omega
       ·rw [addOf_snoc,if_pos hd,lineRows_snoc,List.length_append];rfl
       ·rw [addOf_snoc,if_pos hd,lineRows_snoc];rfl
   ·obtain ⟨hjl,rfl,rfl,rfl⟩:=ixMap_get hj
    have hja:j<rowsN a:=by omega
    have hjc:j<(colK a k).length:=by omega
    have hol:=cellRows_len (dropOf a b k seen)
    have hfl:(dropOf a b k seen).length≤seen.length:=filt_len _ _ _
    have hsl:=hs.len
    have hcr:(cellI (colK a k) j).row=[.bool false,.str (cellI (colK a k) j).text]:=by
     have:=nA (cellI (colK a k) j) (by simp [cellI,hjc])
     unfold Cell.row;rw [this]
    have hkj:(textsOf (colK a k))[j]=(cellI (colK a k) j).text:=by simp [textsOf,cellI,hjc]
    conv=>whnf
    (refine gGo ?_;intros)
    refine ⟨seen,j,j,.str _,.int .i64 j,rfl,ixMap_at hjl,rfl,?_⟩
    conv=>whnf
    rw [hkj]
    (refine gGo ?_;intros)
    refine zok_intro (by kernel_rfl) ?_
    conv=>whnf
    have hlk:=ixMap_look (cellI (colK a k) j).text (textsOf (colK b k))
    cases hx:ixS (cellI (colK a k) j).text (textsOf (colK b k)) with
    | none =>
     rw [hx] at hlk
     refine ⟨_,hlk,?_⟩
     conv=>whnf
     (refine gGo ?_;intros)
     have hd:diffB a b k (cellI (colK a k) j).text j=true:=by unfold diffB;rw [hx]
     refine ⟨⟨rowsSz_cons rfl rowsSz_nil,rfl⟩,fitsN (n:=(cellRows (dropOf a b k seen)).length+1) (b:=24) (by omega) (by omega),.inl ⟨rfl,rfl,?_⟩⟩
     conv=>whnf
     (refine gGo ?_;intros)
     refine ⟨_,_,?_,⟨seen++[j],hs.snoc hja hb,rfl,rfl⟩,[(55,55),(3,3),(4,4),(6,6),(50,50),(53,53),(12,12),(91,91),(92,92)],[],[],LeG.mq (.ci 55 (.ci 3 (.ci 4 (.ci 6 (.ci 50 (.ci 53 (.cons 12 rfl rfl (.refl _) ?_ (.cons 91 rfl rfl (.refl _) ?_ (.ci 92 .nil)))))))))⟩
     ·have:=(hs.snoc hja hb).len;simp at this ⊢;omega
     ·rw [dropOf_snoc,if_pos hd,cellRows_snoc,List.length_append];rfl
     ·rw [dropOf_snoc,if_pos hd,cellRows_snoc,hcr];rfl
    | some i =>
     rw [hx] at hlk
     have hib:i<rowsN b:=by
      have:=(List.getElem?_eq_some_iff.1 (ixS_some hx)).1;omega
     have sp7:=equalCells_spec (rowM a j) (rowM b i)
     have sp8:=rowA j hja
     have sp9:=rowB i hib
     refine ⟨_,hlk,?_⟩
     conv=>whnf
     (refine gGo ?_;intros)
     (refine gPC (sp8) ?_;conv=>whnf)
     (refine gGo ?_;intros)
     (refine gPC (sp9) ?_;conv=>whnf)
     (refine gGo ?_;intros)
     by_cases he:rowM a j=rowM b i
     ·rw [decide_eq_true he] at sp7
      (refine gPC (sp7) ?_;conv=>whnf)
      (refine gGo ?_;intros)
      have hd:¬ diffB a b k (cellI (colK a k) j).text j=true:=by unfold diffB;rw [hx];simp [he]
      refine ⟨_,_,?_,⟨seen++[j],hs.snoc hja hb,rfl,rfl⟩,[(55,55),(3,3),(4,4),(6,6),(50,50),(53,53),(12,12),(91,91),(92,92)],[],[],LeG.mq (.ci 55 (.ci 3 (.ci 4 (.ci 6 (.ci 50 (.ci 53 (.cons 12 rfl rfl (.refl _) ?_ (.cons 91 rfl rfl (.refl _) ?_ (.ci 92 .nil)))))))))⟩
      ·have:=(hs.snoc hja hb).len;simp at this ⊢;omega
      ·rw [dropOf_snoc,if_neg hd];rfl
      ·rw [dropOf_snoc,if_neg hd];rfl
     ·rw [decide_eq_false he] at sp7
      (refine gPC (sp7) ?_;conv=>whnf)
      (refine gGo ?_;intros)
      have hd:diffB a b k (cellI (colK a k) j).text j=true:=by unfold diffB;rw [hx];simp [he]
      refine ⟨⟨rowsSz_cons rfl rowsSz_nil,rfl⟩,fitsN (n:=(cellRows (dropOf a b k seen)).length+1) (b:=24) (by omega) (by omega),.inl ⟨rfl,rfl,?_⟩⟩
      conv=>whnf
      (refine gGo ?_;intros)
      refine ⟨_,_,?_,⟨seen++[j],hs.snoc hja hb,rfl,rfl⟩,[(55,55),(3,3),(4,4),(6,6),(50,50),(53,53),(12,12),(91,91),(92,92)],[],[],LeG.mq (.ci 55 (.ci 3 (.ci 4 (.ci 6 (.ci 50 (.ci 53 (.cons 12 rfl rfl (.refl _) ?_ (.cons 91 rfl rfl (.refl _) ?_ (.ci 92 .nil)))))))))⟩
      ·have:=(hs.snoc hja hb).len;simp at this ⊢;omega
      ·rw [dropOf_snoc,if_pos hd,cellRows_snoc,List.length_append];rfl
      ·rw [dropOf_snoc,if_pos hd,cellRows_snoc,hcr];rfl
  ·have hof:ofM a b key=(Delta.zero,checkM key [a,b]):=by simp [ofM,ha,hb0,hnm,hck]
   rw [hof]
   (refine gGo ?_;intros)
   (refine gPC (sp1) ?_;conv=>whnf)
   (refine gGo ?_;intros)
   (refine gPC (sp2) ?_;conv=>whnf)
   (refine gGo ?_;intros)
   (refine gPC (sp3) ?_;conv=>whnf)
   (refine gGo ?_;intros)
   (refine gPC (sp4) ?_;conv=>whnf)
   (refine gGo ?_;intros)
   (refine gM ?_;conv=>whnf)
   exact retH rfl (.norm _) rfl rfl rfl trivial
 ·have hof:ofM a b key=(Delta.zero,1):=by simp only [ofM];rw [if_neg hcond]
  rw [hof]
  (refine gGo ?_;intros)
  (refine gPC (sp1) ?_;conv=>whnf)
  (refine gGo ?_;intros)
  cases ha:validB a with
  | false =>
   rw [ha] at sp2
   (refine gPC (sp2) ?_;conv=>whnf)
   (refine gGo ?_;intros)
   (refine gM ?_;conv=>whnf)
   exact retH rfl (.norm _) rfl rfl rfl trivial
  | true =>
   rw [ha] at sp2
   (refine gPC (sp2) ?_;conv=>whnf)
   (refine gGo ?_;intros)
   cases hb0:validB b with
   | false =>
    rw [hb0] at sp3
    (refine gPC (sp3) ?_;conv=>whnf)
    (refine gGo ?_;intros)
    (refine gM ?_;conv=>whnf)
    exact retH rfl (.norm _) rfl rfl rfl trivial
   | true =>
    rw [hb0] at sp3
    (refine gPC (sp3) ?_;conv=>whnf)
    have hnm:decide (namesOf a.cols=namesOf b.cols)=false:=by
     rw [decide_eq_false];exact fun h=>hcond ⟨ha,hb0,h⟩
    rw [hnm]
    (refine gGo ?_;intros)
    (refine gM ?_;conv=>whnf)
    exact retH rfl (.norm _) rfl rfl rfl trivial
end Go.Sx.Sp
