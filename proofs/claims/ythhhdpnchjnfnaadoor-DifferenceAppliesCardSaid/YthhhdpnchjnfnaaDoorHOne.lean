/- Plain laws of deltas. -/
import Derived.Test.YthhhdpnchjnfnaaDoorDThree
import Derived.Test.YthhhdpnchjnfnaaDoorFOne
import Derived.Test.YthhhdpnchjnfnaaDoorSxFive
import Derived.Test.YthhhdpnchjnfnaaDoorSxFour
set_option linter.unusedVariables false
set_option linter.unusedSimpArgs false
namespace Go.Sx.Sp
open Go Go.Sx Go.Proofs
theorem dropK_cons (L:List Str) (c:Cell) (cs:List Cell):dropK L (c::cs)=if c.text∈L∧c.null=false then dropK (L.erase c.text) cs else none:=rfl
theorem addK_cons (k:Nat) (L:List Str) (r:List Cell) (rs:List (List Cell)):addK k L (r::rs)=if keyAt k r∉L∧(cellI r k).null=false then addK k (L++[keyAt k r]) rs else none:=rfl
theorem dropK_app:∀ (a b:List Cell) (L:List Str),dropK L (a++b)=(dropK L a).bind fun L'=>dropK L' b
 | [],b,L=>rfl
 | c::a,b,L=>by
  show dropK L (c::(a++b))=_
  rw [dropK_cons,dropK_cons]
  split
  ·exact dropK_app a b _
  ·rfl
theorem addK_app (k:Nat):∀ (a b:List (List Cell)) (L:List Str),addK k L (a++b)=(addK k L a).bind fun L'=>addK k L' b
 | [],b,L=>rfl
 | c::a,b,L=>by
  show addK k L (c::(a++b))=_
  rw [addK_cons,addK_cons]
  split
  ·exact addK_app k a b _
  ·rfl
theorem erase_nodup {L:List Str}(h:L.Nodup) (s:Str) (T:List Str):(L.filter fun x=>decide (x∉T)).erase s=L.filter fun x=>decide (x∉T++[s]):=by
 rw [List.Nodup.erase_eq_filter (h.sublist List.filter_sublist),List.filter_filter]
 refine List.filter_congr fun x _=>?_
 by_cases h1:x=s<;>by_cases h2:x∈T<;>simp [h1,h2]
def leftL (L:List Str) (T:List Str):List Str:=L.filter fun x=>decide (x∉T)
theorem leftL_mem {L T:List Str}{s:Str}:s∈leftL L T↔s∈L∧s∉T:=by simp [leftL]
theorem leftL_nil (L:List Str):leftL L []=L:=by simp [leftL]
theorem drop_split {α:Type}{l:List α}{j:Nat}(h:j<l.length):l=l.take j++(l[j]::l.drop (j+1)):=by
 rw [←List.drop_eq_getElem_cons h,List.take_append_drop]
theorem dropK_none {L:List Str}{ds:List Cell}{j:Nat}(hj:j<ds.length) (h:dropK L (ds.take j)=some (leftL L (textsOf (ds.take j)))) (hc:ds[j].null=true∨ds[j].text∉L∨ds[j].text∈textsOf (ds.take j)):dropK L ds=none:=by
 rw [drop_split hj,dropK_app,h]
 show dropK _ (ds[j]::_)=none
 unfold dropK
 rw [if_neg]
 rintro ⟨h1,h2⟩
 rw [leftL_mem] at h1
 rcases hc with hc | hc | hc
 ·rw [hc] at h2;cases h2
 ·exact hc h1.1
 ·exact h1.2 hc
theorem dropK_step {L:List Str}(hL:L.Nodup) {ds:List Cell}{j:Nat}(hj:j<ds.length) (h:dropK L (ds.take j)=some (leftL L (textsOf (ds.take j)))) (h0:ds[j].null=false) (h1:ds[j].text∈L) (h2:ds[j].text∉textsOf (ds.take j)):dropK L (ds.take (j+1))=some (leftL L (textsOf (ds.take (j+1)))):=by
 rw [List.take_succ_eq_append_getElem hj,dropK_app,h]
 show dropK _ [ds[j]]=_
 unfold dropK
 rw [if_pos ⟨leftL_mem.2 ⟨h1,h2⟩,h0⟩]
 unfold dropK leftL
 rw [erase_nodup hL]
 unfold textsOf
 rw [List.map_append];rfl
theorem addK_none {k:Nat}{L:List Str}{rs:List (List Cell)}{j:Nat}(hj:j<rs.length) (h:addK k L (rs.take j)=some (L++(rs.take j).map (keyAt k))) (hc:(cellI rs[j] k).null=true∨(cellI rs[j] k).text∈L++(rs.take j).map (keyAt k)):addK k L rs=none:=by
 rw [drop_split hj,addK_app,h]
 show addK _ _ (rs[j]::_)=none
 unfold addK
 rw [if_neg]
 rintro ⟨h1,h2⟩
 rcases hc with hc | hc
 ·have h2:(cellI rs[j] k).null=false:=h2
  rw [hc] at h2;cases h2
 ·exact h1 hc
theorem addK_step {k:Nat}{L:List Str}{rs:List (List Cell)}{j:Nat}(hj:j<rs.length) (h:addK k L (rs.take j)=some (L++(rs.take j).map (keyAt k))) (h0:(cellI rs[j] k).null=false) (h1:(cellI rs[j] k).text∉L++(rs.take j).map (keyAt k)):addK k L (rs.take (j+1))=some (L++(rs.take (j+1)).map (keyAt k)):=by
 rw [List.take_succ_eq_append_getElem hj,addK_app,h,Option.bind_some]
 rw [addK_cons,if_pos ⟨h1,h0⟩]
 show some _=some _
 rw [List.map_append,List.append_assoc];rfl
theorem dropK_len:∀ {ds:List Cell}{L L':List Str},dropK L ds=some L'→L'.length+ds.length=L.length
 | [],L,L',h=>by cases h;rfl
 | c::ds,L,L',h=>by
  unfold dropK at h
  split at h
  ·rename_i h1
   have ih:=dropK_len h
   have h2:=List.length_erase_of_mem h1.1
   have h3:=List.length_pos_of_mem h1.1
   rw [List.length_cons];omega
  ·cases h
theorem dropK_all:∀ {ds:List Cell}{L L':List Str},L.Nodup→dropK L ds=some L'→(∀ c∈ds,c.null=false∧c.text∈L)∧(textsOf ds).Nodup
 | [],L,L',_,h=>⟨fun c hc=>(by cases hc),List.nodup_nil⟩
 | c::ds,L,L',hL,h=>by
  unfold dropK at h
  split at h
  ·rename_i h1
   obtain ⟨g1,g2⟩:=dropK_all (hL.sublist List.erase_sublist) h
   refine ⟨fun x hx=>?_,?_⟩
   ·rcases List.mem_cons.1 hx with rfl | hx
    ·exact ⟨h1.2,h1.1⟩
    ·exact ⟨(g1 x hx).1,List.mem_of_mem_erase (g1 x hx).2⟩
   ·show (c.text::textsOf ds).Nodup
    rw [List.nodup_cons]
    refine ⟨fun hm=>?_,g2⟩
    obtain ⟨x,hx,e⟩:=List.mem_map.1 hm
    have:=(g1 x hx).2
    rw [e,hL.mem_erase_iff] at this
    exact this.1 rfl
  ·cases h
theorem addK_all {k:Nat}:∀ {rs:List (List Cell)}{L L':List Str},addK k L rs=some L'→(∀ r∈rs,(cellI r k).null=false∧keyAt k r∉L)∧(rs.map (keyAt k)).Nodup
 | [],L,L',h=>⟨fun c hc=>(by cases hc),List.nodup_nil⟩
 | c::rs,L,L',h=>by
  unfold addK at h
  split at h
  ·rename_i h1
   obtain ⟨g1,g2⟩:=addK_all h
   refine ⟨fun x hx=>?_,?_⟩
   ·rcases List.mem_cons.1 hx with rfl | hx
    ·exact ⟨h1.2,h1.1⟩
    ·exact ⟨(g1 x hx).1,fun hm=>(g1 x hx).2 (List.mem_append_left _ hm)⟩
   ·show (keyAt k c::rs.map (keyAt k)).Nodup
    rw [List.nodup_cons]
    refine ⟨fun hm=>?_,g2⟩
    obtain ⟨x,hx,e⟩:=List.mem_map.1 hm
    exact (g1 x hx).2 (by rw [e];simp)
  ·cases h
theorem dropK_left {L:List Str}(hL:L.Nodup):∀ (ds:List Cell) {L':List Str},dropK L ds=some L'→∀ j,j≤ds.length→dropK L (ds.take j)=some (leftL L (textsOf (ds.take j)))
 | ds,L',h,0,_=>by rw [List.take_zero];show some L=some (leftL L []);rw [leftL_nil]
 | ds,L',h,j+1,hj=>by
  have ih:=dropK_left hL ds h j (by omega)
  by_cases h0:ds[j].null=true∨ds[j].text∉L∨ds[j].text∈textsOf (ds.take j)
  ·rw [dropK_none (by omega) ih h0] at h;cases h
  ·rw [not_or,not_or] at h0
   exact dropK_step hL (by omega) ih (by simpa using h0.1) (Decidable.not_not.1 h0.2.1) h0.2.2
theorem distK_of {α:Type}{key:α→Str}{l:List α}(h:(l.map key).Nodup):DistK key l:=List.pairwise_map.1 h
theorem noclash {t:Table}{k:Nat}{d:Delta}(hkey:keyB (colK t k)=true) (h:clashD (textsOf (colK t k)) k d=false) :
  (∀ c∈d.drop,c.null=false∧c.text∈textsOf (colK t k))∧(textsOf d.drop).Nodup∧(∀ r∈d.add,(cellI r k).null=false∧keyAt k r∉leftL (textsOf (colK t k)) (textsOf d.drop))∧(d.add.map (keyAt k)).Nodup ∧
  (leftL (textsOf (colK t k)) (textsOf d.drop)).length+d.drop.length=(colK t k).length:=by
 obtain ⟨nA,dA⟩:=(keyB_iff _).1 hkey
 unfold clashD at h
 split at h
 ·cases h
 ·rename_i L' hL
  have h1:=dropK_all dA hL
  have h2:=dropK_left dA _ hL d.drop.length (Nat.le_refl _)
  rw [List.take_length,hL] at h2
  cases h2
  have h3:=dropK_len hL
  cases ha:addK k (leftL (textsOf (colK t k)) (textsOf d.drop)) d.add with
  | none=>rw [ha] at h;cases h
  | some L2 =>
   have h4:=addK_all ha
   refine ⟨h1.1,h1.2,h4.1,h4.2,?_⟩
   simpa [textsOf] using h3
theorem cellI_in {cs:List Cell}{i:Nat}(h:i<cs.length):cellI cs i=cs[i]:=by simp [cellI,h]
theorem colK_get {t:Table}{k:Nat}(hk:k<t.cols.length):colK t k=t.cols[k].cells:=by simp [colK,hk]
theorem kept_texts {t:Table}{k:Nat}{d:Delta}(hv:validB t=true) (hk:k<t.cols.length):textsOf (keptA t k d t.cols[k] (rowsN t))=leftL (textsOf (colK t k)) (textsOf d.drop):=by
 have eA:=colK_get hk
 have lA:(colK t k).length=rowsN t:=by rw [eA];exact valid_cells hv _ (List.getElem_mem hk)
 have hl:textsOf (colK t k)=(List.range (rowsN t)).map fun i=>(cellI (colK t k) i).text:=by
  refine List.ext_getElem (by simp [textsOf,lA]) fun i h1 h2=>?_
  simp only [textsOf,List.getElem_map,List.getElem_range]
  rw [cellI_in (by simpa [textsOf] using h1)]
 unfold keptA leftL
 rw [hl,List.filter_map,←eA]
 unfold textsOf
 rw [List.map_map];rfl
theorem keptA_length {t:Table}{k:Nat}{d:Delta}(hv:validB t=true) (hk:k<t.cols.length) (c:Column):(keptA t k d c (rowsN t)).length=(leftL (textsOf (colK t k)) (textsOf d.drop)).length:=by
 rw [←kept_texts hv hk]
 simp [keptA,textsOf]
def colJ (t:Table) (k:Nat) (d:Delta) (j:Nat) (i:Nat):Column:=⟨(t.cols.getD i ⟨[],[]⟩).name,keptA t k d (t.cols.getD i ⟨[],[]⟩) (rowsN t)++newA d i j⟩
def colsJ (t:Table) (k:Nat) (d:Delta) (j n:Nat):List Column:=(List.range n).map (colJ t k d j)
theorem colsJ_len (t:Table) (k:Nat) (d:Delta) (j n:Nat):(colsJ t k d j n).length=n:=by simp [colsJ]
theorem colsJ_all {t:Table}{k:Nat}{d:Delta}(hv:validB t=true):(⟨t.id,t.name,colsJ t k d d.add.length t.cols.length⟩:Table)=applyD t k d:=by
 unfold applyD colsA colsJ
 congr 1
 refine List.map_congr_left fun i hi=>?_
 rw [List.mem_range] at hi
 unfold colJ colA newA
 have hm:t.cols.getD i ⟨[],[]⟩∈t.cols:=by simp [hi]
 rw [valid_cells hv _ hm,List.take_length]
theorem rowsN_cols {id:Int}{nm:Str}{C:List Column}(h:0<C.length):rowsN ⟨id,nm,C⟩=C[0].cells.length:=by
 cases C with
 | nil=>simp at h
 | cons c C=>rfl
theorem colJ_rows {t:Table}{k:Nat}{d:Delta}(hv:validB t=true) (hk:k<t.cols.length) {j:Nat}(hj:j≤d.add.length) (i:Nat):(colJ t k d j i).cells.length=(leftL (textsOf (colK t k)) (textsOf d.drop)).length+j:=by
 unfold colJ
 rw [List.length_append,keptA_length hv hk]
 simp [newA];omega
theorem colJ_key {t:Table}{k:Nat}{d:Delta}(hv:validB t=true) (hk:k<t.cols.length) (j:Nat):textsOf (colJ t k d j k).cells=leftL (textsOf (colK t k)) (textsOf d.drop)++(d.add.take j).map (keyAt k):=by
 unfold colJ
 show textsOf (_++_)=_
 unfold textsOf
 rw [List.map_append]
 have e:t.cols.getD k ⟨[],[]⟩=t.cols[k]:=by simp [hk]
 rw [e]
 show textsOf _++_=_
 rw [kept_texts hv hk]
 congr 1
 unfold newA
 rw [List.map_map];rfl
theorem apply_cols {t:Table}{k:Nat}{d:Delta}:(applyD t k d).cols.length=t.cols.length:=colsA_len _ _ _ _
theorem goodD_cells {n:Nat}{d:Delta}(h:goodD n d=true):(∀ r∈d.add,r.length=n∧∀ c∈r,cellB c=true)∧∀ c∈d.drop,cellB c=true:=by
 unfold goodD at h
 simp only [Bool.and_eq_true,List.all_eq_true,Bool.not_eq_true',List.any_eq_false,decide_eq_true_eq,badB] at h
 refine ⟨fun r hr=>⟨by have:=(h.1 r hr).1;omega,fun c hc=>?_⟩,fun c hc=>?_⟩
 ·have:=(h.1 r hr).2 c hc
  simpa using this
 ·have:=h.2 c hc
  simpa using this
theorem apply_rows {t:Table}{k:Nat}{d:Delta}(hv:validB t=true) (hk:k<t.cols.length):rowsN (applyD t k d)=(leftL (textsOf (colK t k)) (textsOf d.drop)).length+d.add.length:=by
 rw [←colsJ_all hv,rowsN_cols (by rw [colsJ_len];omega)]
 have h0:(colsJ t k d d.add.length t.cols.length)[0]'(by rw [colsJ_len];omega)=colJ t k d d.add.length 0:=by simp [colsJ]
 rw [h0,colJ_rows hv hk (Nat.le_refl _)]
theorem apply_valid {t:Table}{k:Nat}{d:Delta}(hv:validB t=true) (hg:goodD t.cols.length d=true) (hk:k<t.cols.length) (hkey:keyB (colK t k)=true) (hcl:clashD (textsOf (colK t k)) k d=false) (hn:(rowsN t:Int)-d.drop.length+d.add.length≤4096):validB (applyD t k d)=true:=by
 have hrows:=apply_rows (d:=d) hv hk
 obtain ⟨_,_,_,_,hlen⟩:=noclash hkey hcl
 have lA:(colK t k).length=rowsN t:=by rw [colK_get hk];exact valid_cells hv _ (List.getElem_mem hk)
 obtain ⟨gA,gD⟩:=goodD_cells hg
 have hcs:(applyD t k d).cols=colsJ t k d d.add.length t.cols.length:=by rw [←colsJ_all hv]
 have hv0:=hv
 simp only [validB,headB,Bool.and_eq_true,decide_eq_true_eq,Bool.not_eq_true',List.any_eq_false] at hv ⊢
 obtain ⟨⟨⟨⟨h1,h2⟩,h3⟩,h4⟩,h5⟩:=hv
 refine ⟨⟨⟨⟨h1,h2⟩,by rw [apply_cols];exact h3⟩,by omega⟩,fun c hc=>?_⟩
 rw [hcs] at hc
 obtain ⟨i,hi,rfl⟩:=List.mem_map.1 hc
 rw [List.mem_range] at hi
 have hm:t.cols[i]∈t.cols:=List.getElem_mem hi
 have e:t.cols.getD i ⟨[],[]⟩=t.cols[i]:=by simp [hi]
 have h6:=h5 _ hm
 simp only [badCol,Bool.or_eq_true,decide_eq_true_eq,not_or,Decidable.not_not,Bool.not_eq_true',Bool.not_eq_false] at h6 ⊢
 refine ⟨⟨?_,by rw [colJ_rows hv0 hk (Nat.le_refl _),hrows]⟩,?_⟩
 ·show fineB (t.cols.getD i ⟨[],[]⟩).name=true
  rw [e];exact h6.1.1
 ·rw [List.all_eq_true]
  intro x hx
  unfold colJ at hx
  rcases List.mem_append.1 hx with hx | hx
  ·obtain ⟨j,hj,rfl⟩:=List.mem_map.1 hx
   have hj:=List.mem_range.1 (List.mem_filter.1 hj).1
   rw [e,cellI_in (by rw [valid_cells hv0 _ hm];exact hj)]
   exact valid_good hv0 hm _ (List.getElem_mem _)
  ·obtain ⟨r,hr,rfl⟩:=List.mem_map.1 hx
   rw [List.take_length] at hr
   obtain ⟨g1,g2⟩:=gA r hr
   rw [cellI_in (by omega)]
   exact g2 _ (List.getElem_mem _)
theorem apply_key {t:Table}{k:Nat}{d:Delta}(hv:validB t=true) (hk:k<t.cols.length):textsOf (colK (applyD t k d) k)=leftL (textsOf (colK t k)) (textsOf d.drop)++d.add.map (keyAt k):=by
 have h:=colJ_key (d:=d) hv hk d.add.length
 rw [List.take_length] at h
 rw [←h]
 have hcs:(applyD t k d).cols=colsJ t k d d.add.length t.cols.length:=by rw [←colsJ_all hv]
 unfold colK
 rw [hcs]
 simp [colsJ,hk]
theorem apply_keyB {t:Table}{k:Nat}{d:Delta}(hv:validB t=true) (hk:k<t.cols.length) (hkey:keyB (colK t k)=true) (hcl:clashD (textsOf (colK t k)) k d=false):keyB (colK (applyD t k d) k)=true:=by
 obtain ⟨h1,h2,h3,h4,_⟩:=noclash hkey hcl
 obtain ⟨nA,dA⟩:=(keyB_iff _).1 hkey
 rw [keyB_iff,apply_key hv hk]
 refine ⟨fun c hc=>?_,?_⟩
 ·have hcs:(applyD t k d).cols=colsJ t k d d.add.length t.cols.length:=by rw [←colsJ_all hv]
  have e:colK (applyD t k d) k=(colJ t k d d.add.length k).cells:=by unfold colK;rw [hcs];simp [colsJ,hk]
  rw [e] at hc
  unfold colJ at hc
  rcases List.mem_append.1 hc with hx | hx
  ·obtain ⟨j,hj,rfl⟩:=List.mem_map.1 hx
   have hj:=List.mem_range.1 (List.mem_filter.1 hj).1
   have e2:t.cols.getD k ⟨[],[]⟩=t.cols[k]:=by simp [hk]
   have hl:j<(colK t k).length:=by rw [colK_get hk,valid_cells hv _ (List.getElem_mem hk)];exact hj
   rw [e2,←colK_get hk,cellI_in hl]
   exact nA _ (List.getElem_mem _)
  ·obtain ⟨r,hr,rfl⟩:=List.mem_map.1 hx
   rw [List.take_length] at hr
   exact (h3 r hr).1
 ·rw [List.nodup_append]
  refine ⟨dA.sublist List.filter_sublist,h4,fun x hx y hy e=>?_⟩
  obtain ⟨r,hr,rfl⟩:=List.mem_map.1 hy
  exact (h3 r hr).2 (e ▸ hx)
theorem ascK_flat {α β:Type}{key:α→Str}{g:β→Str}{f:β→List α}{L:List β}(hL:AscK g L) (h1:∀ i∈L,(f i).length≤1) (h2:∀ i∈L,∀ x∈f i,key x=g i):AscK key (L.flatMap f):=by
 induction L with
 | nil=>exact List.Pairwise.nil
 | cons i L ih =>
  have hp:=List.pairwise_cons.1 hL
  rw [List.flatMap_cons]
  unfold AscK
  rw [List.pairwise_append]
  refine ⟨?_,ih hp.2 (fun j hj=>h1 j (List.mem_cons_of_mem _ hj)) (fun j hj=>h2 j (List.mem_cons_of_mem _ hj)),fun a ha b hb=>?_⟩
  ·have:=h1 i (List.mem_cons_self)
   match f i,this with
   | [],_=>exact List.Pairwise.nil
   | [x],_=>exact List.pairwise_singleton _ _
  ·obtain ⟨j,hj,hb⟩:=List.mem_flatMap.1 hb
   rw [h2 i List.mem_cons_self a ha,h2 j (List.mem_cons_of_mem _ hj) b hb]
   exact hp.1 j hj
theorem filter_one {α:Type}{key:α→Str}{l:List α}(hd:(l.map key).Nodup) {p:α→Bool}{s:Str}(hp:∀ x,p x=true→key x=s):(l.filter p).length≤1:=by
 induction l with
 | nil=>simp
 | cons x l ih =>
  have hn:=List.nodup_cons.1 (show (key x::l.map key).Nodup from hd)
  rw [List.filter_cons]
  split
  ·rename_i h
   have:l.filter p=[]:=by
    rw [List.filter_eq_nil_iff]
    intro y hy hpy
    exact hn.1 (List.mem_map.2 ⟨y,hy,by rw [hp y hpy,hp x h]⟩)
   rw [this];simp
  ·exact ih hn.2
def turnDrop (b:Table) (k:Nat) (d:Delta) (o:List Nat):List Cell:=o.flatMap fun r=>(d.add.filter fun x=>decide (cellI x k=cellI (colK b k) r)).map fun x=>cellI x k
def turnAdd (t:Table) (k:Nat) (d:Delta) (o:List Nat):List (List Cell):=o.flatMap fun r=>(d.drop.filter fun c=>decide (c=cellI (colK t k) r)).map fun _=>rowM t r
theorem cell_eq {a b:Cell}(h1:a.null=b.null) (h2:a.text=b.text):a=b:=by cases a;cases b;simp_all
theorem turn_drop {t:Table}{k:Nat}{d:Delta}(hv:validB t=true) (hg:goodD t.cols.length d=true) (hk:k<t.cols.length) (hkey:keyB (colK t k)=true) (hcl:clashD (textsOf (colK t k)) k d=false) (hn:(rowsN t:Int)-d.drop.length+d.add.length≤4096) :
  turnDrop (applyD t k d) k d (ordM (applyD t k d) k)=(turnD t k d).drop:=by
 have hvB:=apply_valid hv hg hk hkey hcl hn
 have hkB:=apply_keyB hv hk hkey hcl
 have hkc:k<(applyD t k d).cols.length:=by rw [apply_cols];exact hk
 have hak:=apply_key (d:=d) hv hk
 obtain ⟨nB,dB⟩:=(keyB_iff _).1 hkB
 obtain ⟨h1,h2,h3,h4,_⟩:=noclash hkey hcl
 have hd:DistK Cell.text (d.add.map fun r=>cellI r k):=distK_of (by rw [List.map_map];exact h4)
 refine ascK_ext (key:=Cell.text) (ascK_flat (ordM_asc hvB hkc hkB) (fun i _=>?_) fun i _ x hx=>?_) (sortK_asc hd) fun c=>?_
 ·rw [List.length_map]
  exact filter_one (key:=keyAt k) (s:=(cellI (colK (applyD t k d) k) i).text) h4 fun x hx=>by
   show (cellI x k).text=_
   rw [of_decide_eq_true hx]
 ·obtain ⟨y,hy,rfl⟩:=List.mem_map.1 hx
  have:=of_decide_eq_true (List.mem_filter.1 hy).2
  rw [this]
 ·show _↔c∈sortK Cell.text _
  rw [sortK_mem]
  unfold turnDrop
  simp only [List.mem_flatMap,List.mem_map,List.mem_filter,decide_eq_true_eq]
  refine ⟨fun ⟨i,_,x,⟨hx,_⟩,e⟩=>⟨x,hx,e⟩,fun ⟨x,hx,e⟩=>?_⟩
  have hm:keyAt k x∈textsOf (colK (applyD t k d) k):=by
   rw [hak];exact List.mem_append_right _ (List.mem_map.2 ⟨x,hx,rfl⟩)
  obtain ⟨y,hy,e2⟩:=List.mem_map.1 hm
  obtain ⟨i,hi,rfl⟩:=List.mem_iff_getElem.1 hy
  have hir:i<rowsN (applyD t k d):=by
   have:=valid_cells hvB _ (List.getElem_mem hkc)
   rw [←colK_get hkc] at this;omega
  refine ⟨i,(ordM_perm _ _).mem_iff.2 (List.mem_range.2 hir),x,⟨hx,?_⟩,e⟩
  rw [cellI_in hi]
  exact cell_eq (by rw [(h3 x hx).1,nB _ hy]) e2.symm
theorem turn_add {t:Table}{k:Nat}{d:Delta}(hv:validB t=true) (hk:k<t.cols.length) (hkey:keyB (colK t k)=true) (hcl:clashD (textsOf (colK t k)) k d=false) :
  turnAdd t k d (ordM t k)=(turnD t k d).add:=by
 obtain ⟨nA,dA⟩:=(keyB_iff _).1 hkey
 obtain ⟨h1,h2,h3,h4,_⟩:=noclash hkey hcl
 have lA:(colK t k).length=rowsN t:=by rw [colK_get hk];exact valid_cells hv _ (List.getElem_mem hk)
 have hix:∀ c∈d.drop,∃ i,∃ h:i<(colK t k).length,ixG c.text (textsOf (colK t k))=i∧cellI (colK t k) i=c:=fun c hc=>by
  have hm:=(h1 c hc).2
  cases hx:ixS c.text (textsOf (colK t k)) with
  | none=>exact absurd hm (ixS_none.1 hx)
  | some i =>
   obtain ⟨g1,g2⟩:=List.getElem?_eq_some_iff.1 (ixS_some hx)
   have g3:i<(colK t k).length:=by simpa [textsOf] using g1
   refine ⟨i,g3,by simp [ixG,hx],?_⟩
   rw [cellI_in g3]
   refine cell_eq (by rw [nA _ (List.getElem_mem _),(h1 c hc).1]) ?_
   simpa [textsOf] using g2
 have hd:DistK (keyAt k) (d.drop.map fun c=>rowM t (ixG c.text (textsOf (colK t k)))):=by
  refine distK_of ?_
  rw [List.map_map]
  have e:d.drop.map ((keyAt k) ∘ fun c=>rowM t (ixG c.text (textsOf (colK t k))))=textsOf d.drop:=by
   refine List.map_congr_left fun c hc=>?_
   obtain ⟨i,hi,e1,e2⟩:=hix c hc
   show keyAt k (rowM t _)=_
   rw [keyAt_row hk,e1,e2]
  rw [e];exact h2
 refine ascK_ext (key:=keyAt k) (ascK_flat (ordM_asc hv hk hkey) (fun i _=>?_) fun i _ x hx=>?_) (sortK_asc hd) fun r=>?_
 ·rw [List.length_map]
  exact filter_one (key:=Cell.text) (s:=(cellI (colK t k) i).text) h2 fun x hx=>by rw [of_decide_eq_true hx]
 ·obtain ⟨y,hy,rfl⟩:=List.mem_map.1 hx
  exact keyAt_row hk
 ·show _↔r∈sortK (keyAt k) _
  rw [sortK_mem]
  unfold turnAdd
  simp only [List.mem_flatMap,List.mem_map,List.mem_filter,decide_eq_true_eq]
  constructor
  ·rintro ⟨i,hi,c,⟨hc,e1⟩,rfl⟩
   refine ⟨c,hc,?_⟩
   obtain ⟨j,hj,g1,g2⟩:=hix c hc
   have hi2:i<(colK t k).length:=by rw [lA];exact ordM_lt hi
   rw [g1]
   have:i=j:=nodup_get dA hi2 hj (by rw [g2,←e1])
   rw [this]
  ·rintro ⟨c,hc,rfl⟩
   obtain ⟨j,hj,g1,g2⟩:=hix c hc
   exact ⟨j,(ordM_perm _ _).mem_iff.2 (List.mem_range.2 (by omega)),c,⟨hc,g2.symm⟩,by rw [g1]⟩
end Go.Sx.Sp
namespace Go.Sx.Sp
open Go Go.Sx Go.Proofs
attribute [local irreducible] GoodW famL
theorem oslRows_of {h:Nat→List Blk}{s i sz:Nat}{rows:List (List V)}{ks:Option (List Nat)}(hh:(h s)[i]?=some (.rows sz rows ks)):oslRows h s i=some (sz,rows,ks):=by unfold oslRows;rw [hh]
def colW (q:Nat) (c:Column):List V:=[.str c.name,.osl 902 q 0 c.cells.length c.cells.length]
def colWs (cols:List Column):List (List V):=cols.mapIdx colW
theorem colWs_len (cols:List Column):(colWs cols).length=cols.length:=by simp [colWs]
theorem colWs_get {cols:List Column}{i:Nat}(h:i<cols.length):(colWs cols)[i]?=some (colW i cols[i]):=by simp [colWs,h]
def colF (cols:List Column) (i:Nat):Blk:=.rows 2 (cellRows (match cols[i]? with | some c=>c.cells | none=>[])) (some [])
theorem colF_fam (cols:List Column) (n:Nat):∀ b∈famL n (colF cols),b.famB=true:=famL_famB fun i _=>rfl
theorem colF_get {cols:List Column}{i:Nat}(h:i<cols.length):colF cols i=.rows 2 (cellRows cols[i].cells) (some []):=by unfold colF;rw [List.getElem?_eq_getElem h]
def addC (cols:List Column) (k:Nat) (c:Cell):List Column:=cols.modify k fun x=>{ x with cells:=x.cells++[c] }
theorem addC_ws {cols:List Column}{k:Nat}{c:Cell}(h:k<cols.length) {n:Nat}(hn:n=(cols[k]).cells.length+1):(colWs cols).set k [.str (cols[k]).name,.osl 902 k 0 n n]=colWs (addC cols k c):=by
 subst hn
 refine List.ext_getElem? fun i=>?_
 rw [List.getElem?_set]
 by_cases e:k=i
 ·subst e
  simp [colWs,addC,colW,h]
 ·simp only [colWs,addC,if_neg e,List.getElem?_mapIdx,List.getElem?_modify]
  simp [e]
theorem addC_f {cols:List Column}{k:Nat}{c:Cell}(h:k<cols.length) (i:Nat):colF (addC cols k c) i=if i=k then .rows 2 (cellRows (cols[k].cells++[c])) (some []) else colF cols i:=by
 unfold colF addC
 rw [List.getElem?_modify]
 by_cases e:i=k
 ·subst e
  simp [h]
 ·rw [if_neg e]
  have e2:¬ k=i:=Ne.symm e
  cases cols[i]?<;>simp [e2]
theorem colWs_sites {cols:List Column}{i q:Nat}{r:List V}{v:V}(hi:(colWs cols)[i]?=some r) (hq:r[q]?=some v):∀ s∈v.sites,s∈[902]:=fun s hs=>by
 have hlt:=(List.getElem?_eq_some_iff.1 hi).1
 rw [colWs_len] at hlt
 rw [colWs_get hlt] at hi
 cases hi
 match q,hq with
 | 0,hq=>cases hq;cases hs
 | 1,hq=>cases hq;simpa [V.sites] using hs
 | q+2,hq=>simp [colW] at hq
def colH (n:Nat) (cols:List Column):List (Nat×List Blk):=[(901,[.rows 2 (colWs cols) (some [902])]),(902,famL (n+2) (colF cols))]
theorem colH_within (n:Nat) (cols:List Column):∀ p∈colH n cols,∀ b∈p.2,b.within fun k=>memB k (keysF (colH n cols)):=by
 intro p hp b hb
 simp only [colH,List.mem_cons,List.not_mem_nil,or_false] at hp
 rcases hp with rfl | rfl
 ·simp only [List.mem_singleton] at hb
  subst hb
  intro k hk
  simp at hk;subst hk;rfl
 ·exact famWithin (colF_fam cols _ b hb)
theorem colH_ne (n:Nat) (cols:List Column):∀ p∈colH n cols,p.2≠[]:=by
 intro p hp
 simp only [colH,List.mem_cons,List.not_mem_nil,or_false] at hp
 rcases hp with rfl | rfl
 ·simp
 ·intro e
  have:=congrArg List.length e
  rw [famL_len] at this
  simp at this
set_option maxHeartbeats 4000000 in
theorem find37F_spec (id:Int) (nm:Str) (n:Nat) (C:List Column) (hn:C.length=n) (k:Nat) (s:Str) (hk:k<C.length):SpecF Tryd.prog 28 [.agg [.int .i64 id,.str nm,.osl 901 0 0 (colWs C).length (colWs C).length],.int .i64 (k:Nat),.str s] (colH n C) (.int .i64 (find37M s (textsOf C[k].cells))) (colH n C):=by
 have hwl:=colWs_len C
 have hgw:=colWs_get hk
 have hfk:(famL (n+2) (colF C))[k]?=some (.rows 2 (cellRows C[k].cells) (some [])):=by rw [famL_get (by omega),colF_get hk]
 unfold colW at hgw
 generalize hc:C[k]=c at *
 have hl:=cellRows_len c.cells
 refine gEnF env Tryd.func28 (colH_within n C) fun Γ hN hK hML=>?_
 change W _ _ _ _ _ ⟨_,[(901,[.rows 2 (colWs C) (some [902])]),(902,famL (n+2) (colF C))],[901,902]⟩
 (refine gGo ?_;intros)
 refine rowAt_of (by simpa using hgw) ?_
 conv=>whnf
 (refine gGo ?_;intros)
 generalize hO:oslRows _ 902 k=O
 have hO2:O=some (2,cellRows c.cells,some []):=by rw [←hO];exact oslRows_of hfk
 subst hO2
 clear hO
 conv=>whnf
 refine And.intro hl.symm fun _=>?_
 conv=>whnf
 (refine gGo ?_;intros)
 refine W.loopG (fun m st=>∃ j:Nat,j≤c.cells.length∧s∉(textsOf c.cells).take j∧m=c.cells.length-j∧st=⟨[(2,.str s),(14,.osl 902 k 0 c.cells.length c.cells.length),(15,.int .i64 c.cells.length),(16,.int .i64 j)],[(901,[.rows 2 (colWs C) (some [902])]),(902,famL (n+2) (colF C))],[901,902]⟩)
  c.cells.length _ ⟨0,by omega,by simp,by omega,rfl⟩ ⟨[(901,901),(902,902)],[],[],LeG.mq (.ci 901 (.fam 902 rfl rfl (colF_fam _ _) .nil))⟩ ?_
 rintro m st ⟨j,hj,hns,rfl,rfl⟩
 (refine gGo ?_;intros)
 refine boolRes_split (fun hb=>?_) (fun hb=>?_)<;>conv=>whnf
 ·have hlt:j<c.cells.length:=by omega
  have hg:=cellRows_get hlt
  have ht:(textsOf c.cells).take (j+1)=(textsOf c.cells).take j++[c.cells[j].text]:=by
   rw [List.take_succ_eq_append_getElem (by simpa [textsOf] using hlt)];simp [textsOf]
  have hd:(textsOf c.cells).drop j=c.cells[j].text::(textsOf c.cells).drop (j+1):=by
   rw [List.drop_eq_getElem_cons (by simpa [textsOf] using hlt)];simp [textsOf]
  have hix:=ixS_drop s _ j hns
  rw [hd] at hix
  generalize c.cells[j]=x at *
  (refine gGo ?_;intros)
  generalize hO:(lookH _ 902)[k]?=O
  have hO2:O=some (.rows 2 (cellRows c.cells) (some [])):=by rw [←hO];exact hfk
  subst hO2
  clear hO
  conv=>whnf
  refine ⟨hl.symm,⟨by omega,by omega⟩,?_⟩
  conv=>whnf
  (refine gGo ?_;intros)
  generalize hO:(lookH _ 902)[k]?=O
  have hO2:O=some (.rows 2 (cellRows c.cells) (some [])):=by rw [←hO];exact hfk
  subst hO2
  clear hO
  conv=>whnf
  refine ⟨hl.symm,rowAt_of (r:=x.row) (by simpa using hg) ?_⟩
  conv=>whnf
  (refine gGo ?_;intros)
  by_cases he:x.text=s
  ·have hT:find37M s (textsOf c.cells)=(j:Nat):=by
    unfold find37M;rw [hix];simp [ixS,he]
   rw [hT]
   refine boolRes_true he ?_
   conv=>whnf
   (refine gGo ?_;intros)
   (refine gM ?_;conv=>whnf)
   exact retF rfl (LeG.mk' rfl rfl rfl ⟨⟨_,.refl _,rfl⟩,trivial⟩ (.ci 901 (.fam 902 rfl rfl (colF_fam _ _) .nil)) rfl rfl rfl)
  ·refine boolRes_false he ?_
   conv=>whnf
   (refine gGo ?_;intros)
   refine ⟨_,_,?_,⟨j+1,by omega,by rw [ht];simp only [List.mem_append,List.mem_singleton,not_or];exact ⟨hns,fun e=>he e.symm⟩,rfl,rfl⟩,[(901,901),(902,902)],[],[],LeG.mq (.ci 901 (.fam 902 rfl rfl (colF_fam _ _) .nil))⟩
   omega
 ·have hje:j=c.cells.length:=by omega
  rw [hje,List.take_of_length_le (by simp [textsOf])] at hns
  have hT:find37M s (textsOf c.cells)=-1:=by unfold find37M;rw [ixS_none.2 hns]
  rw [hT]
  (refine gGo ?_;intros)
  (refine gM ?_;conv=>whnf)
  exact retF rfl (LeG.mk' rfl rfl rfl ⟨⟨_,.refl _,rfl⟩,trivial⟩ (.ci 901 (.fam 902 rfl rfl (colF_fam _ _) .nil)) rfl rfl rfl)
end Go.Sx.Sp
namespace Go.Sx.Sp
open Go Go.Sx Go.Proofs
attribute [local irreducible] GoodW
theorem turn_dist {t:Table}{k:Nat}{d:Delta}(hv:validB t=true) (hk:k<t.cols.length) (hkey:keyB (colK t k)=true) (hcl:clashD (textsOf (colK t k)) k d=false) :
  (∀ c∈d.add.map (fun r=>cellI r k),c.null=false)∧DistK Cell.text (d.add.map fun r=>cellI r k)∧DistK (keyAt k) (d.drop.map fun c=>rowM t (ixG c.text (textsOf (colK t k)))):=by
 obtain ⟨nA,dA⟩:=(keyB_iff _).1 hkey
 obtain ⟨h1,h2,h3,h4,_⟩:=noclash hkey hcl
 refine ⟨fun c hc=>?_,distK_of (by rw [List.map_map];exact h4),distK_of ?_⟩
 ·obtain ⟨r,hr,rfl⟩:=List.mem_map.1 hc
  exact (h3 r hr).1
 ·rw [List.map_map]
  have e:d.drop.map ((keyAt k) ∘ fun c=>rowM t (ixG c.text (textsOf (colK t k))))=textsOf d.drop:=by
   refine List.map_congr_left fun c hc=>?_
   have hm:=(h1 c hc).2
   show keyAt k (rowM t _)=_
   rw [keyAt_row hk]
   cases hx:ixS c.text (textsOf (colK t k)) with
   | none=>exact absurd hm (ixS_none.1 hx)
   | some i =>
    obtain ⟨g1,g2⟩:=List.getElem?_eq_some_iff.1 (ixS_some hx)
    have g3:i<(colK t k).length:=by simpa [textsOf] using g1
    rw [show ixG c.text (textsOf (colK t k))=i by simp [ixG,hx],cellI_in g3]
    simpa [textsOf] using g2
  rw [e];exact h2
set_option maxHeartbeats 16000000 in
theorem turn_spec (t:Table) (key:Int) (d:Delta) (hdd:d.drop.length≤4294967296) (hda:d.add.length≤4294967296):Spec Tryd.prog 13 [.agg t.row,.int .i64 key,.agg d.row] [] (.tup [.agg (turnM t key d).1.row,.int .i64 (turnM t key d).2]) []:=by
 have spM:=may_spec t key d hda
 refine gEn env Tryd.func13 fun Γ hN hK hML=>?_
 by_cases hm:mayM t key d=0
 ·obtain ⟨hv,hg,hck,hcl,hsz⟩:=may_ok hm
  obtain ⟨k,rfl,hk,hkey⟩:=check_one hck
  obtain ⟨hz1,hz2,hz3⟩:=turn_dist hv hk hkey (by simpa using hcl)
  have hof:turnM t k d=(turnD t k d,0):=by unfold turnM;rw [if_pos hm];simp
  rw [hof]
  rw [hm] at spM
  simp only [Int.toNat_natCast] at hcl
  have eA:colK t k=t.cols[k].cells:=by simp [colK,hk]
  have lA:(colK t k).length=rowsN t:=by rw [eA];exact valid_cells hv _ (List.getElem_mem hk)
  obtain ⟨nA,dA⟩:=(keyB_iff _).1 hkey
  have f64a:t.cols.length≤4294967295:=by
   simp only [validB,headB,Bool.and_eq_true,decide_eq_true_eq] at hv;omega
  have sp5:=byKey_spec t k hk (by rw [←eA];exact dA)
  rw [←eA] at sp5
  have hdm:∀ c∈d.drop,c.text∈textsOf (colK t k):=by
   unfold clashD at hcl
   split at hcl
   ·cases hcl
   ·rename_i L' hL;exact dropK_mem _ _ _ hL
  have rowA:∀ i,i<rowsN t→Spec Tryd.prog 30 [.agg t.row,.int .i64 (i:Nat)] [] (.sl (cellRows (rowM t i)) false) []:=fun i hi=>row_spec t i (fun c hc=>by rw [valid_cells hv c hc];exact hi) f64a
  have tA:(textsOf (colK t k)).length=rowsN t:=by simp [textsOf,lA]
  have hal:=lineRows_len d.add
  have hdl:=cellRows_len d.drop
  (refine gGo ?_;intros)
  (refine gPC (spM) ?_;conv=>whnf)
  (refine gGo ?_;intros)
  (refine gCA [] [(8,50)] [] (sp5) ?_;conv=>whnf)
  (refine gGo ?_;intros)
  refine W.ownCell 10 0 0 91 2 rfl rfl rfl rfl rfl ?_
  refine W.ownCell 10 0 1 92 1 rfl rfl rfl rfl rfl ?_
  refine W.loopG (fun n st=>∃ j:Nat,j≤d.add.length∧n=d.add.length-j∧st=⟨[(1,.int .i64 k),(3,.bp 3 0),(5,.bp 5 0),(6,.bp 6 0),(9,.omap 50 0),(10,.bp 10 0),(27,.sl (lineRows d.add) false),(28,.int .i64 (lineRows d.add).length),(29,.int .i64 j)],[(3,[.rows 3 [t.row] none]),(5,[.rows 2 [d.row] none]),(6,[.rows 2 [[.nils,.nils]] none]),(50,[.map (ixMap (textsOf (colK t k))) (textsOf (colK t k)).length (some [])]),(10,[.rows 2 [[.osl 91 0 0 (cellRows ((d.add.take j).map fun r=>cellI r k)).length (cellRows ((d.add.take j).map fun r=>cellI r k)).length,.osl 92 0 0 0 0]] none]),(91,[.rows 2 (cellRows ((d.add.take j).map fun r=>cellI r k)) (some [])]),(92,[.rows 1 [] (some [])])],[3,5,6,50,10,91,92]⟩)
   d.add.length _ ⟨0,by omega,by omega,rfl⟩ ⟨[(3,3),(5,5),(6,6),(50,50),(10,10),(91,91),(92,92)],[],[],.mq (.ci 3 (.ci 5 (.ci 6 (.ci 50 (.ci 10 (.ci 91 (.ci 92 .nil)))))))⟩ ?_
  rintro n st ⟨j,hj,rfl,rfl⟩
  (refine gGo ?_;intros)
  refine boolRes_split (fun hb=>?_) (fun hb=>?_)<;>conv=>whnf
  ·have hlt:j<d.add.length:=by omega
   have hrl:k<d.add[j].length:=by rw [good_row hg (List.getElem_mem hlt)];exact hk
   have hgl:(lineRows d.add)[j]?=some (lineV d.add[j]):=by simp [lineRows,hlt]
   have hsn:(d.add.take (j+1)).map (fun r=>cellI r k)=(d.add.take j).map (fun r=>cellI r k)++[cellI d.add[j] k]:=by rw [List.take_succ_eq_append_getElem hlt,List.map_append];rfl
   have hcl2:=cellRows_len ((d.add.take j).map fun r=>cellI r k)
   rw [List.length_map,List.length_take] at hcl2
   have hgk:=line_cell hrl
   generalize d.add[j]=r at *
   (refine gGo ?_;intros)
   refine rowAt_of (by simpa using hgl) ?_
   conv=>whnf
   (refine gGo ?_;intros)
   refine rowAt_of (by simpa using hgk) ?_
   conv=>whnf
   (refine gGo ?_;intros)
   refine ⟨⟨rowsSz_cons rfl rowsSz_nil,rfl⟩,fitsN (n:=(cellRows ((d.add.take j).map fun r=>cellI r k)).length+1) (b:=24) (by omega) (by omega),.inl ⟨rfl,rfl,?_⟩⟩
   conv=>whnf
   (refine gGo ?_;intros)
   refine ⟨_,_,?_,⟨j+1,by omega,rfl,rfl⟩,[(3,3),(5,5),(6,6),(50,50),(10,10),(91,91),(92,92)],[],[],LeG.mq (.ci 3 (.ci 5 (.ci 6 (.ci 50 (.cons 10 rfl rfl (.refl _) ?_ (.cons 91 rfl rfl (.refl _) ?_ (.ci 92 .nil)))))))⟩
   ·omega
   ·rw [hsn,cellRows_snoc,List.length_append];rfl
   ·rw [hsn,cellRows_snoc];rfl
  ·have hje:j=d.add.length:=by omega
   rw [hje,List.take_length]
   have hq1:(d.add.map fun r=>cellI r k).length<4611686018427387904:=by rw [List.length_map];omega
   have hq2:(turnD t k d).drop=sortK Cell.text (d.add.map fun r=>cellI r k):=rfl
   generalize (d.add.map fun r=>cellI r k)=DR at *
   (refine gGo ?_;intros)
   refine W.loopG (fun n st=>∃ j:Nat,j≤d.drop.length∧n=d.drop.length-j∧st=⟨[(1,.int .i64 k),(3,.bp 3 0),(5,.bp 5 0),(6,.bp 6 0),(9,.omap 50 0),(10,.bp 10 0),(44,.sl (cellRows d.drop) false),(45,.int .i64 (cellRows d.drop).length),(46,.int .i64 j)],[(3,[.rows 3 [t.row] none]),(5,[.rows 2 [d.row] none]),(6,[.rows 2 [[.nils,.nils]] none]),(50,[.map (ixMap (textsOf (colK t k))) (textsOf (colK t k)).length (some [])]),(10,[.rows 2 [[.osl 91 0 0 (cellRows DR).length (cellRows DR).length,.osl 92 0 0 (lineRows ((d.drop.take j).map fun c=>rowM t (ixG c.text (textsOf (colK t k))))).length (lineRows ((d.drop.take j).map fun c=>rowM t (ixG c.text (textsOf (colK t k))))).length]] none]),(91,[.rows 2 (cellRows DR) (some [])]),(92,[.rows 1 (lineRows ((d.drop.take j).map fun c=>rowM t (ixG c.text (textsOf (colK t k))))) (some [])])],[3,5,6,50,10,91,92]⟩)
    d.drop.length _ ⟨0,by omega,by omega,rfl⟩ ⟨[(3,3),(5,5),(6,6),(50,50),(10,10),(91,91),(92,92)],[],[],.mq (.ci 3 (.ci 5 (.ci 6 (.ci 50 (.ci 10 (.ci 91 (.ci 92 .nil)))))))⟩ ?_
   rintro n st ⟨j,hj,rfl,rfl⟩
   (refine gGo ?_;intros)
   refine boolRes_split (fun hb=>?_) (fun hb=>?_)<;>conv=>whnf
   ·have hlt:j<d.drop.length:=by omega
    have hgl:=cellRows_get hlt
    have hmem:=hdm _ (List.getElem_mem hlt)
    have hsn:(d.drop.take (j+1)).map (fun c=>rowM t (ixG c.text (textsOf (colK t k))))=(d.drop.take j).map (fun c=>rowM t (ixG c.text (textsOf (colK t k))))++[rowM t (ixG d.drop[j].text (textsOf (colK t k)))]:=by rw [List.take_succ_eq_append_getElem hlt,List.map_append];rfl
    have hll2:=lineRows_len ((d.drop.take j).map fun c=>rowM t (ixG c.text (textsOf (colK t k))))
    rw [List.length_map,List.length_take] at hll2
    generalize d.drop[j]=c at *
    have hlk:=ixMap_look c.text (textsOf (colK t k))
    obtain ⟨i,hx⟩:∃ i,ixS c.text (textsOf (colK t k))=some i:=by
     cases hx:ixS c.text (textsOf (colK t k)) with
     | none=>exact absurd hmem (ixS_none.1 hx)
     | some i=>exact ⟨i,rfl⟩
    have hia:i<rowsN t:=by
     have:=(List.getElem?_eq_some_iff.1 (ixS_some hx)).1;omega
    have hig:ixG c.text (textsOf (colK t k))=i:=by simp [ixG,hx]
    rw [hig] at hsn
    rw [hx] at hlk
    have sp8:=rowA i hia
    (refine gGo ?_;intros)
    refine rowAt_of (by simpa using hgl) ?_
    conv=>whnf
    (refine gGo ?_;intros)
    refine zok_intro (by kernel_rfl) ?_
    conv=>whnf
    refine ⟨_,hlk,?_⟩
    conv=>whnf
    (refine gGo ?_;intros)
    (refine gPC (sp8) ?_;conv=>whnf)
    (refine gGo ?_;intros)
    refine ⟨⟨rowsSz_cons rfl rowsSz_nil,rfl⟩,fitsN (n:=(lineRows ((d.drop.take j).map fun c=>rowM t (ixG c.text (textsOf (colK t k))))).length+1) (b:=24) (by omega) (by omega),.inl ⟨rfl,rfl,?_⟩⟩
    conv=>whnf
    (refine gGo ?_;intros)
    refine ⟨_,_,?_,⟨j+1,by omega,rfl,rfl⟩,[(3,3),(5,5),(6,6),(50,50),(10,10),(91,91),(92,92)],[],[],LeG.mq (.ci 3 (.ci 5 (.ci 6 (.ci 50 (.cons 10 rfl rfl (.refl _) ?_ (.ci 91 (.cons 92 rfl rfl (.refl _) ?_ .nil)))))))⟩
    ·omega
    ·rw [hsn,lineRows_snoc,List.length_append];rfl
    ·rw [hsn,lineRows_snoc];rfl
   ·have hje:j=d.drop.length:=by omega
    rw [hje,List.take_length]
    have hq3:(d.drop.map fun c=>rowM t (ixG c.text (textsOf (colK t k)))).length<4611686018427387904:=by rw [List.length_map];omega
    have hq4:(turnD t k d).add=sortK (keyAt k) (d.drop.map fun c=>rowM t (ixG c.text (textsOf (colK t k)))):=rfl
    have hq5:∀ r∈d.drop.map (fun c=>rowM t (ixG c.text (textsOf (colK t k)))),k<r.length:=fun r hr=>by
     obtain ⟨c,_,rfl⟩:=List.mem_map.1 hr
     rw [rowM_len];exact hk
    generalize (d.drop.map fun c=>rowM t (ixG c.text (textsOf (colK t k))))=AR at *
    have sp10:=sorted_spec DR AR k hz1 hz2 hz3 hq1 hq3 hq5
    have l1:(cellRows DR).length=(cellRows (turnD t k d).drop).length:=by rw [hq2];simp [cellRows,sortK_len]
    have l2:(lineRows AR).length=(lineRows (turnD t k d).add).length:=by rw [hq4];simp [lineRows,sortK_len]
    (refine gGo ?_;intros)
    (refine gCA [(0,91),(1,92)] [] [] (sp10) ?_;conv=>whnf)
    (refine gGo ?_;intros)
    rw [←hq2,←hq4]
    refine W.leG (mp:=[(6,6)]) (bo:=[91,92]) (st':=⟨[(6,.bp 6 0),(7,.int .i64 0)],[(6,[.rows 2 [(turnD t k d).row] none])],[6]⟩)
     (LeG.mq (.cons 6 (b1:=.rows 2 [(turnD t k d).row] none) rfl rfl (.rows _ _ _ ⟨⟨⟨Lent.whole rfl rfl l1 rfl (by first | exact .inl rfl | exact .inr rfl),rfl⟩,⟨Lent.whole rfl rfl l2 rfl (by first | exact .inl rfl | exact .inr rfl),rfl⟩,trivial⟩,trivial⟩) rfl .nil)) ?_
    (refine gM ?_;conv=>whnf)
    exact retH rfl (.refl _) rfl rfl rfl trivial
 ·have hof:turnM t key d=(Delta.zero,mayM t key d):=by unfold turnM;rw [if_neg hm]
  rw [hof]
  (refine gGo ?_;intros)
  (refine gPC (spM) ?_;conv=>whnf)
  (refine gGo ?_;intros)
  (refine gM ?_;conv=>whnf)
  exact retH rfl (.norm _) rfl rfl rfl trivial
end Go.Sx.Sp
namespace Go.Sx.Sp
open Go Go.Sx Go.Proofs
attribute [local irreducible] GoodW famL
def goneL (cs:List Cell) (T:List Str):List Bool:=cs.map fun x=>decide (x.text∈T)
def boolRows (l:List Bool):List (List V):=l.map fun b=>[.bool b]
theorem goneL_len (cs:List Cell) (T:List Str):(goneL cs T).length=cs.length:=by simp [goneL]
theorem boolRows_len (l:List Bool):(boolRows l).length=l.length:=by simp [boolRows]
theorem gone_get {cs:List Cell}{T:List Str}{i:Nat}(h:i<cs.length):(boolRows (goneL cs T))[i]?=some [.bool (decide (cs[i].text∈T))]:=by simp [boolRows,goneL,h]
theorem gone_zero (cs:List Cell):boolRows (goneL cs [])=List.replicate cs.length [.bool false]:=by
 unfold boolRows goneL
 rw [List.map_map]
 refine List.ext_getElem (by simp) fun i h1 h2=>?_
 simp
theorem gone_set {cs:List Cell}(hd:(textsOf cs).Nodup) {T:List Str}{i:Nat}(h:i<cs.length):(boolRows (goneL cs T)).set i [.bool true]=boolRows (goneL cs (T++[cs[i].text])):=by
 refine List.ext_getElem? fun j=>?_
 rw [List.getElem?_set]
 by_cases e:i=j
 ·subst e
  rw [if_pos rfl,if_pos (by simpa [boolRows,goneL] using h),gone_get h]
  simp
 ·rw [if_neg e]
  by_cases hj:j<cs.length
  ·rw [gone_get hj,gone_get hj]
   have hne:cs[j].text≠cs[i].text:=fun h2=>e (nodup_get hd h hj (by rw [cellI_in h,cellI_in hj,h2]))
   simp [hne]
  ·rw [List.getElem?_eq_none (by simp [boolRows,goneL];omega),List.getElem?_eq_none (by simp [boolRows,goneL];omega)]
theorem check37_one {t:Table}{key:Int}(hv:validB t=true):check37M t key=checkM key [t]:=by
 unfold check37M checkM
 rw [if_pos hv]
 simp only [List.all_cons,List.all_nil,Bool.and_true]
theorem colF_nil (C:List Column) (nm:Str):colF (C++[⟨nm,[]⟩])=colF C:=by
 funext i
 unfold colF
 rcases Nat.lt_trichotomy i C.length with h | h | h
 ·rw [List.getElem?_append_left h]
 ·subst h
  rw [List.getElem?_append_right (Nat.le_refl _),List.getElem?_eq_none (Nat.le_refl _)];simp
 ·rw [List.getElem?_eq_none (by simp;omega),List.getElem?_eq_none (by omega)]
theorem colF_snoc (C:List Column) (c:Column) (x:Cell) (i:Nat):colF (C++[{ c with cells:=c.cells++[x] }]) i=if i=C.length then .rows 2 (cellRows (c.cells++[x])) (some []) else colF (C++[c]) i:=by
 unfold colF
 rcases Nat.lt_trichotomy i C.length with h | h | h
 ·rw [List.getElem?_append_left h,List.getElem?_append_left h,if_neg (by omega)]
 ·subst h
  rw [if_pos rfl,List.getElem?_append_right (Nat.le_refl _)];simp
 ·rw [List.getElem?_eq_none (by simp;omega),List.getElem?_eq_none (by simp;omega),if_neg (by omega)]
theorem colWs_snoc (C:List Column) (c:Column):colWs (C++[c])=colWs C++[colW C.length c]:=by
 unfold colWs
 rw [List.mapIdx_append]
 simp
theorem colsJ_succ (t:Table) (k:Nat) (d:Delta) (j n:Nat):colsJ t k d j (n+1)=colsJ t k d j n++[colJ t k d j n]:=by
 unfold colsJ
 rw [List.range_succ,List.map_append];rfl
def pcJ (t:Table) (k:Nat) (d:Delta) (n j i:Nat):List Column:=(List.range n).map fun q=>colJ t k d (if q<i then j+1 else j) q
theorem pcJ_len (t:Table) (k:Nat) (d:Delta) (n j i:Nat):(pcJ t k d n j i).length=n:=by simp [pcJ]
theorem pcJ_zero (t:Table) (k:Nat) (d:Delta) (n j:Nat):pcJ t k d n j 0=colsJ t k d j n:=by simp [pcJ,colsJ]
theorem pcJ_all (t:Table) (k:Nat) (d:Delta) (n j:Nat):pcJ t k d n j n=colsJ t k d (j+1) n:=by
 unfold pcJ colsJ
 refine List.map_congr_left fun q hq=>?_
 rw [if_pos (List.mem_range.1 hq)]
theorem pcJ_get {t:Table}{k:Nat}{d:Delta}{n j i:Nat}(h:i<n):(pcJ t k d n j i)[i]'(by rw [pcJ_len];exact h)=colJ t k d j i:=by simp [pcJ]
theorem colJ_add {t:Table}{k:Nat}{d:Delta}{j i:Nat}(hj:j<d.add.length):colJ t k d (j+1) i={ colJ t k d j i with cells:=(colJ t k d j i).cells++[cellI d.add[j] i] }:=by
 unfold colJ
 rw [newA_snoc i hj,←List.append_assoc]
theorem pcJ_succ {t:Table}{k:Nat}{d:Delta}{n j i:Nat}(hj:j<d.add.length) (h:i<n):pcJ t k d n j (i+1)=addC (pcJ t k d n j i) i (cellI d.add[j] i):=by
 refine List.ext_getElem? fun q=>?_
 unfold addC
 rw [List.getElem?_modify]
 unfold pcJ
 rw [List.getElem?_map,List.getElem?_map]
 by_cases hq:q<n
 ·rw [List.getElem?_range hq]
  simp only [Option.map_some,Option.map_eq_map]
  by_cases e:i=q
  ·subst e
   simp [colJ_add hj]
  ·rw [if_neg e]
   by_cases h2:q<i
   ·rw [if_pos (by omega),if_pos h2]
   ·rw [if_neg (by omega),if_neg h2]
 ·rw [List.getElem?_eq_none (by simp;omega)]
  simp
theorem _root_.Go.Sx.Ref.reks [Glob] {Γ:Ctx}{st:St}(k:Nat) {sz:Nat}{rows rows1:List (List V)}{ks:Option (List Nat)}(l:List Nat) (hk:lookH st.heap k=[.rows sz rows ks]) (he:rows=rows1)
  (hs:∀ (i:Nat) r (j:Nat) v,rows1[i]?=some r→r[j]?=some v→∀ s∈v.sites,s∈l) (hu:∀ q∈l,memB q st.used=true):Ref Γ st ⟨st.env,(k,[.rows sz rows1 (some l)])::st.heap,st.used⟩:=by
 subst he
 refine Ref.recell k rows (some l) hk rfl (fun i r hi=>⟨r,hi,rfl,fun j v hj=>⟨v,hj,.same v,fun l' hl=>?_⟩⟩) (fun l' hl=>?_)
 ·cases hl;exact hs i r j v hi hj
 ·cases hl;exact hu
theorem colF_none:colF []=fun _=>.rows 2 [] (some []):=by
 funext i
 simp [colF,cellRows]
theorem col_recell {H:Nat→List Blk}{n i:Nat}{C:List Column}{nm:Str}(hi:C.length=i) (hn:i<n+2) (hF:H 902=famL (n+2) (colF C)) :
  ∀ (j:Nat) r1,([[.str nm,.osl 902 i 0 0 0]]:List (List V))[j]?=some r1→∃ r,([[.str nm,.nils]]:List (List V))[j]?=some r∧r.length=r1.length∧∀ (q:Nat) v1,r1[q]?=some v1→∃ v,r[q]?=some v∧NilAs H v v1∧∀ l,some [902]=some l→∀ s∈v1.sites,s∈l:=by
 intro j r1 hj
 match j,hj with
 | 0,hj =>
  cases hj
  refine ⟨_,rfl,rfl,fun q v1 hq=>?_⟩
  match q,hq with
  | 0,hq=>cases hq;exact ⟨_,rfl,.same _,fun l _ s hs=>by cases hs⟩
  | 1,hq =>
   cases hq
   refine ⟨.nils,rfl,.nil .nils 902 i 2 (some []) rfl ?_,fun l hl s hs=>?_⟩
   ·rw [hF,famL_get hn]
    simp [colF,cellRows,hi]
   ·cases hl
    simpa [V.sites] using hs
  | q+2,hq=>simp at hq
 | j+1,hj=>simp at hj
theorem colWs_lent {H:Nat→List Blk}{bo:List Nat}{C:List Column}{n:Nat}{ks:Option (List Nat)}(hb:memB 902 bo=true) (hn:C.length≤n) (hF:H 902=famL n (colF C)):BLent H bo (.rows 2 (colWs C) ks) (.rows 2 (colRows C) (some [])):=by
 refine .rowsF _ _ _ _ (by rw [colWs_len,colRows_len]) fun i r1 hi=>?_
 have hlt:=(List.getElem?_eq_some_iff.1 hi).1
 rw [colRows_len] at hlt
 rw [colRows_get hlt] at hi
 cases hi
 refine ⟨_,colWs_get hlt,rfl,fun j v1 hj=>?_⟩
 match j,hj with
 | 0,hj=>cases hj;exact ⟨_,rfl,.refl _,rfl,rfl⟩
 | 1,hj =>
  cases hj
  refine ⟨_,rfl,?_,rfl,rfl⟩
  have h1:(H 902)[i]?=some (.rows 2 (cellRows C[i].cells) (some [])):=by rw [hF,famL_get (by omega),colF_get hlt]
  have:=Lent.oslF (H:=H) (bo:=bo) 902 i 0 C[i].cells.length C[i].cells.length 2 (cellRows C[i].cells) (some []) hb h1 (cellRows_len _).symm (.inl rfl)
  rw [List.drop_zero,List.take_of_length_le (by rw [cellRows_len];exact Nat.le_refl _)] at this
  exact this
 | j+2,hj=>simp [Column.row] at hj
end Go.Sx.Sp
