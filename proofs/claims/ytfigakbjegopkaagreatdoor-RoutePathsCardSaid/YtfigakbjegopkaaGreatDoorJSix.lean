/- Relations of a list, drawn paths, rows of paths as the document tells them. -/
import Derived.Test.YtfigakbjegopkaaGreatDoorJFive
import Derived.Test.YtfigakbjegopkaaGreatDoorJFour
import Derived.Test.YtfigakbjegopkaaGreatDoorSxFour
set_option linter.unusedVariables false
set_option linter.unusedSimpArgs false
namespace Go.Sx.Sp
open Go Go.Sx Go.Proofs
attribute [local irreducible] GoodW famL
set_option maxHeartbeats 4000000 in
theorem contained_spec (r0 r1 r2 r3 r6 r7 r8 r9 r10:Int) (x y:Nat) (hx0:x≠0) (hx:x≤4096) (hy:y≤4096):Spec Tryz.prog 40 [.agg (intsV [r0,r1,r2,r3,x,y,r6,r7,r8,r9,r10])] [] (.agg (fracV (partF x (x+y)).1 (partF x (x+y)).2)) []:=by
 have sp:=part_spec x (x+y) (by omega) (by omega) (by omega)
 rw [Int.natCast_add] at sp
 generalize (partF x (x+y)).1=p at *
 generalize (partF x (x+y)).2=q at *
 refine gEn env Tryz.func40 fun Γ hN hK hML=>?_
 (refine gGo ?_;intros)
 (refine gPC (sp) ?_;conv=>whnf)
 (refine gGo ?_;intros)
 (refine gM ?_;conv=>whnf)
 exact retH rfl (.norm _) rfl rfl rfl trivial
set_option maxHeartbeats 4000000 in
theorem turn29_spec (r0 r1 r2 r3 r4 r5 r6 r7 r8 r9 r10:Int):Spec Tryz.prog 41 [.agg (intsV [r0,r1,r2,r3,r4,r5,r6,r7,r8,r9,r10])] [] (.agg (intsV [r2,r3,r0,r1,r4,r6,r5,r8,r7,r10,r9])) []:=by
 refine gEn env Tryz.func41 fun Γ hN hK hML=>?_
 (refine gGo ?_;intros)
 (refine gM ?_;conv=>whnf)
 exact retH rfl (.norm _) rfl rfl rfl trivial
theorem ascB_iff:∀ (l:List Table),ascB l=true↔∀ i (h:i+1<l.length),l[i].id<l[i+1].id
 | []=>by simp [ascB]
 | [a]=>by simp [ascB]
 | a::b::r=>by
  have ih:=ascB_iff (b::r)
  simp only [ascB,Bool.and_eq_true,decide_eq_true_eq,ih]
  constructor
  ·rintro ⟨h1,h2⟩ i hi
   cases i with
   | zero=>exact h1
   | succ i=>exact h2 i (by simp at hi ⊢;omega)
  ·intro h
   refine ⟨h 0 (by simp),fun i hi=>?_⟩
   exact h (i+1) (by simp at hi ⊢;omega)
theorem listB_iff (l:List Table):listB l=true↔(∀ i (h:i<l.length),validB l[i]=true)∧(∀ i (h:i+1<l.length),l[i].id<l[i+1].id)∧l.length≤1024:=by
 unfold listB
 simp only [Bool.and_eq_true,decide_eq_true_eq,ascB_iff,List.all_eq_true]
 constructor
 ·rintro ⟨h1,h2,h3⟩
  exact ⟨fun i h=>h3 _ (List.getElem_mem h),h1,h2⟩
 ·rintro ⟨h1,h2,h3⟩
  refine ⟨h2,h3,fun t ht=>?_⟩
  obtain ⟨i,h,rfl⟩:=List.getElem_of_mem ht
  exact h1 i h
set_option maxHeartbeats 8000000 in
theorem validList3_spec (l:List Table):Spec Tryz.prog 25 [.sl (tblRows l) false] [] (.bool (listB l)) []:=by
 have hl:=tblRows_len l
 refine gEn env Tryz.func25 fun Γ hN hK hML=>?_
 (refine gGo ?_;intros)
 refine W.loopG (fun n st=>∃ k:Nat,k≤l.length∧(∀ i (h:i<l.length),i<k→validB l[i]=true)∧(∀ i (h:i+1<l.length),i+1<k→l[i].id<l[i+1].id)∧n=l.length-k∧st=⟨[(0,.sl (tblRows l) false),(5,.sl (tblRows l) false),(6,.int .i64 (tblRows l).length),(7,.int .i64 k)],[],[]⟩)
  l.length _ ⟨0,by omega,fun i h hi=>by omega,fun i h hi=>by omega,by omega,rfl⟩ ⟨[],[],[],.mq .nil⟩ ?_
 rintro n st ⟨k,hk,hv,ha,rfl,rfl⟩
 (refine gGo ?_;intros)
 refine boolRes_split (fun hb=>?_) (fun hb=>?_)<;>conv=>whnf
 ·have hlt:k<l.length:=by omega
  have hg:=tblRows_get hlt
  have sp:=valid3_spec l[k]
  have hvn:=fun (hv2:validB l[k]=true) (i:Nat) (h:i<l.length) (hi:i<k+1)=>show validB l[i]=true from by
   by_cases e:i=k
   ·subst e;exact hv2
   ·exact hv i h (by omega)
  cases hvk:validB l[k] with
  | false =>
   have hT:listB l=false:=by
    cases h:listB l with
    | false=>rfl
    | true=>have:=((listB_iff l).1 h).1 k hlt;rw [hvk] at this;cases this
   rw [hvk] at sp
   generalize l[k]=t at *
   (refine gGo ?_;intros)
   refine rowAt_of (by simpa using hg) ?_
   conv=>whnf
   (refine gGo ?_;intros)
   (refine gPC (sp) ?_;conv=>whnf)
   (refine gGr ?_;intros)
   exact ret0 rfl (congrArg V.bool hT.symm) rfl
  | true =>
   rw [hvk] at sp
   have hvm:=hvn hvk
   clear hvn
   by_cases hk0:k=0
   ·subst hk0
    generalize l[0]=t at *
    (refine gGo ?_;intros)
    refine rowAt_of (by simpa using hg) ?_
    conv=>whnf
    (refine gGo ?_;intros)
    (refine gPC (sp) ?_;conv=>whnf)
    (refine gGo ?_;intros)
    refine ⟨_,_,?_,⟨0+1,by omega,hvm,fun i h hi=>by omega,rfl,rfl⟩,⟨[],[],[],.mq .nil⟩⟩
    omega
   ·obtain ⟨q,rfl⟩:∃ q,k=q+1:=⟨k-1,by omega⟩
    have hlq:q<l.length:=by omega
    have hgq:=tblRows_get hlq
    have hge:(tblRows l)[(((q+1:Nat):Int)-1).toNat]?=some l[q].row:=by
     rw [show (((q+1:Nat):Int)-1).toNat=q by omega];exact hgq
    have han:=fun (h2:l[q].id<l[q+1].id) (i:Nat) (h:i+1<l.length) (hi:i+1<q+1+1)=>show l[i].id<l[i+1].id from by
     by_cases e:i=q
     ·subst e;exact h2
     ·exact ha i h (by omega)
    have hF:¬ l[q].id<l[q+1].id→listB l=false:=fun h2=>by
     cases h:listB l with
     | false=>rfl
     | true=>exact absurd (((listB_iff l).1 h).2.1 q hlt) h2
    generalize l[q+1]=t at *
    generalize l[q]=u at *
    (refine gGo ?_;intros)
    refine rowAt_of (by simpa using hg) ?_
    conv=>whnf
    (refine gGo ?_;intros)
    (refine gPC (sp) ?_;conv=>whnf)
    (refine gGo ?_;intros)
    refine rowAt_of hge ?_
    conv=>whnf
    (refine gGo ?_;intros)
    refine boolRes_split (fun hb=>?_) (fun hb=>?_)<;>conv=>whnf
    ·have hT:=hF (by omega)
     (refine gGr ?_;intros)
     exact ret0 rfl (congrArg V.bool hT.symm) rfl
    ·(refine gGo ?_;intros)
     refine ⟨_,_,?_,⟨q+1+1,by omega,hvm,han (by omega),rfl,rfl⟩,⟨[],[],[],.mq .nil⟩⟩
     omega
 ·have hke:k=l.length:=by omega
  subst hke
  have hT:listB l=decide (l.length≤1024):=by
   rw [Bool.eq_iff_iff,listB_iff,decide_eq_true_eq]
   exact ⟨fun h=>h.2.2,fun h=>⟨fun i h=>hv i h h,fun i h=>ha i h h,h⟩⟩
  rw [hT]
  (refine gGo ?_;intros)
  refine boolRes_keep ?_
  conv=>whnf
  (refine gGr ?_;intros)
  exact ret0 rfl (congrArg V.bool (decide_eq_decide.2 (by omega))) rfl
def relRows (l:List (List Int)):List (List V):=l.map intsV
theorem relRows_len (l:List (List Int)):(relRows l).length=l.length:=by simp [relRows]
theorem relRows_snoc (a:List (List Int)) (t:List Int):relRows (a++[t])=relRows a++[intsV t]:=by simp [relRows]
def edgeC (a:Table) (i:Nat) (b:Table) (j:Nat):List (List Int):=if 0<(of29E a i b j).1.getD 4 0 then [(of29E a i b j).1] else []
def edgeB (a:Table) (i:Nat) (b:Table) (n:Nat):List (List Int):=(List.range n).flatMap (edgeC a i b)
def edgeR (a:Table) (i:Nat) (bs:List Table):List (List Int):=bs.flatMap fun b=>edgeB a i b b.cols.length
def edgeA (l:List Table) (k n:Nat):List (List Int):=(List.range n).flatMap fun i=>edgeR (l.getD k Table.zero) i (l.drop (k+1))
def edgeL (l:List Table) (n:Nat):List (List Int):=(List.range n).flatMap fun k=>edgeA l k (l.getD k Table.zero).cols.length
def edges (l:List Table):List (List Int):=edgeL l l.length
theorem range_flat {α:Type}(f:Nat→List α) (n:Nat):(List.range (n+1)).flatMap f=(List.range n).flatMap f++f n:=by simp [List.range_succ]
theorem flat_le {α β:Type}(f:α→List β) (B:Nat):∀ (l:List α),(∀ x∈l,(f x).length≤B)→(l.flatMap f).length≤l.length*B
 | [],_=>by simp
 | x::l,h=>by
  have h1:=h x (by simp)
  have h2:=flat_le f B l fun y hy=>h y (by simp [hy])
  rw [List.flatMap_cons,List.length_append,List.length_cons,Nat.add_mul];omega
theorem edgeC_len (a:Table) (i:Nat) (b:Table) (j:Nat):(edgeC a i b j).length≤1:=by unfold edgeC;split<;>simp
theorem edgeB_len (a:Table) (i:Nat) (b:Table) (n:Nat):(edgeB a i b n).length≤n:=by
 have:=flat_le (edgeC a i b) 1 (List.range n) (fun j _=>edgeC_len a i b j)
 unfold edgeB
 simpa using this
theorem edgeR_len (a:Table) (i:Nat) {bs:List Table}(h:∀ b∈bs,b.cols.length≤64):(edgeR a i bs).length≤bs.length*64:=
 flat_le _ 64 bs fun b hb=>Nat.le_trans (edgeB_len a i b _) (h b hb)
theorem edgeA_len {l:List Table}(h:∀ b∈l,b.cols.length≤64) (hl:l.length≤100) (k n:Nat):(edgeA l k n).length≤n*6400:=by
 have:=flat_le (fun i=>edgeR (l.getD k Table.zero) i (l.drop (k+1))) 6400 (List.range n) (fun i _=>by
  have:=edgeR_len (l.getD k Table.zero) i (bs:=l.drop (k+1)) (fun b hb=>h b (List.mem_of_mem_drop hb))
  rw [List.length_drop] at this
  omega)
 rwa [List.length_range] at this
theorem edgeL_len {l:List Table}(h:∀ b∈l,b.cols.length≤64) (hl:l.length≤100) {n:Nat}(hn:n≤l.length):(edgeL l n).length≤n*409600:=by
 have:=flat_le (fun k=>edgeA l k (l.getD k Table.zero).cols.length) 409600 (List.range n) (fun k hk=>by
  have hk:=List.mem_range.1 hk
  have h1:=edgeA_len h hl k (l.getD k Table.zero).cols.length
  have h2:(l.getD k Table.zero).cols.length≤64:=by
   rw [List.getD_eq_getElem?_getD,List.getElem?_eq_getElem (show k<l.length by omega)]
   exact h _ (List.getElem_mem _)
  omega)
 rwa [List.length_range] at this
theorem edgeR_snoc (a:Table) (i:Nat) (bs:List Table) (b:Table):edgeR a i (bs++[b])=edgeR a i bs++edgeB a i b b.cols.length:=by simp [edgeR]
theorem edgeA_succ (l:List Table) (k i:Nat):edgeA l k (i+1)=edgeA l k i++edgeR (l.getD k Table.zero) i (l.drop (k+1)):=range_flat _ _
theorem edgeL_succ (l:List Table) (k:Nat):edgeL l (k+1)=edgeL l k++edgeA l k (l.getD k Table.zero).cols.length:=range_flat _ _
theorem of29_form {a b:Table}(ha:validB a=true) (hb:validB b=true) {i j:Nat}(hi:i<a.cols.length) (hj:j<b.cols.length) :
  ∃ (x y:Nat) (r6 r7 r8 r9 r10:Int),of29E a i b j=([a.id,(i:Int),b.id,(j:Int),(x:Int),(y:Int),r6,r7,r8,r9,r10],0)∧x≤4096∧y≤4096:=by
 have he:of29E a i b j=(rel29L a i b j,0):=by
  unfold of29E
  rw [if_neg (by simp [ha,hb]),if_neg (fun h=>h ⟨by omega,by omega,by omega,by omega⟩)];rfl
 have hva:=validB_rows ha
 have hvb:=validB_rows hb
 have lA:=hva.2 _ (List.getElem_mem hi)
 have lB:=hvb.2 _ (List.getElem_mem hj)
 have mA:=cntC_mems a.cols[i].cells
 have mB:=cntC_mems b.cols[j].cells
 have hbd:=ahL_bound (cntC a.cols[i].cells) (cntC b.cols[j].cells) (rowsN a) (rowsN b) (fun p hp=>by have:=mA.1 p hp;omega) (fun p hp=>by have:=mB.1 p hp;omega) (List.range (cntC a.cols[i].cells).length)
 rw [List.length_range] at hbd
 obtain ⟨c1,c2,_,_,_,_,_⟩:=hbd
 obtain ⟨x,hx⟩:=Int.eq_ofNat_of_zero_le c1.1
 obtain ⟨y,hy⟩:=Int.eq_ofNat_of_zero_le c2.1
 rw [he]
 refine ⟨x,y,(cntC b.cols[j].cells).length-(ahM (cntC a.cols[i].cells) (cntC b.cols[j].cells) (rowsN a) (rowsN b)).common,(ahM (cntC a.cols[i].cells) (cntC b.cols[j].cells) (rowsN a) (rowsN b)).mostA,(ahM (cntC a.cols[i].cells) (cntC b.cols[j].cells) (rowsN a) (rowsN b)).mostB,(ahM (cntC a.cols[i].cells) (cntC b.cols[j].cells) (rowsN a) (rowsN b)).lostA,(ahM (cntC a.cols[i].cells) (cntC b.cols[j].cells) (rowsN a) (rowsN b)).lostB,?_,by omega,by omega⟩
 rw [←hx,←hy]
 simp [rel29L,hi,hj]
 exact ⟨rfl,rfl⟩
set_option maxHeartbeats 32000000 in
theorem build_spec (l:List Table) (hv:listB l=true) (hl:l.length≤100):Spec Tryz.prog 19 [.sl (tblRows l) false,.agg (fracV 0 1)] [] (.tup [.sl (relRows (edges l)) false,.int .i64 0]) []:=by
 have spV:=validList3_spec l
 rw [hv] at spV
 have sp0:=zero23_spec
 have sp1:=less23_spec 0 1 zeroOK
 have sp2:=int23_spec 1 (by decide)
 have sp3:=less23_spec (partF 1 1).1 (partF 1 1).2 (partF_ok (by decide) (by decide) (by decide))
 have hal:=listB_valid hv
 have hcols:∀ b∈l,b.cols.length≤64:=fun b hb=>by
  have:=hal b hb
  unfold validB headB at this
  simp only [Bool.and_eq_true,decide_eq_true_eq] at this
  exact this.1.1.2
 have htl:=tblRows_len l
 generalize (partF 1 1).1=p1 at *
 generalize (partF 1 1).2=q1 at *
 refine gEn env Tryz.func19 fun Γ hN hK hML=>?_
 (refine gGo ?_;intros)
 (refine gPC (spV) ?_;conv=>whnf)
 (refine gGo ?_;intros)
 (refine gPC (sp0) ?_;conv=>whnf)
 (refine gGo ?_;intros)
 (refine gPC (sp1) ?_;conv=>whnf)
 (refine gGo ?_;intros)
 (refine gPC (sp2) ?_;conv=>whnf)
 (refine gGo ?_;intros)
 (refine gPC (sp3) ?_;conv=>whnf)
 (refine gGo ?_;intros)
 refine W.ownNil 6 90 11 rfl rfl ?_
 refine W.leG (mp:=[(3,3),(90,90)]) (bo:=[]) (st':=⟨[(0,.sl (tblRows l) false),(3,.bp 3 0),(6,.osl 90 0 0 0 0),(28,.sl (tblRows l) false),(29,.int .i64 (tblRows l).length),(30,.int .i64 0)],[(3,[.rows 4 [fracV 0 1] none]),(90,[.rows 11 [] (some [])])],[3,90]⟩)
  (LeG.mq (.ci 3 (.ci 90 .nil))) ?_
 refine W.loopG (fun n st=>∃ (k:Nat) (out:List (List Int)),k≤l.length∧out=edgeL l k∧n=l.length-k∧st=⟨[(0,.sl (tblRows l) false),(3,.bp 3 0),(6,.osl 90 0 0 (relRows out).length (relRows out).length),(28,.sl (tblRows l) false),(29,.int .i64 (tblRows l).length),(30,.int .i64 k)],[(3,[.rows 4 [fracV 0 1] none]),(90,[.rows 11 (relRows out) (some [])])],[3,90]⟩)
  l.length _ ⟨0,[],by omega,rfl,by omega,rfl⟩ ⟨[(3,3),(90,90)],[],[],.mq (.ci 3 (.ci 90 .nil))⟩ ?_
 rintro n st ⟨k,o1,hk,ho1,rfl,rfl⟩
 (refine gGo ?_;intros)
 refine boolRes_split (fun hb=>?_) (fun hb=>?_)<;>conv=>whnf
 ·have hkl:k<l.length:=by omega
  have hg:=tblRows_get hkl
  have hak:=hal _ (List.getElem_mem hkl)
  have hck:=hcols _ (List.getElem_mem hkl)
  have hgd:l.getD k Table.zero=l[k]:=by simp [hkl]
  generalize ha:l[k]=a at *
  (refine gGo ?_;intros)
  refine rowAt_of (by simpa using hg) ?_
  conv=>whnf
  have hb1:=edgeL_len hcols hl (show k≤l.length by omega)
  rw [←ho1] at hb1
  (refine gGo ?_;intros)
  refine W.loopG (fun n st=>∃ (i:Nat) (out:List (List Int)),i≤a.cols.length∧out=o1++edgeA l k i∧n=a.cols.length-i∧st=⟨[(0,.sl (tblRows l) false),(3,.bp 3 0),(6,.osl 90 0 0 (relRows out).length (relRows out).length),(28,.sl (tblRows l) false),(29,.int .i64 (tblRows l).length),(30,.int .i64 k),(7,.int .i64 k),(8,.bp 8 0),(36,.sl (colRows a.cols) false),(37,.int .i64 (colRows a.cols).length),(38,.int .i64 i)],[(3,[.rows 4 [fracV 0 1] none]),(90,[.rows 11 (relRows out) (some [])]),(8,[.rows 3 [a.row] none])],[3,90,8]⟩)
   a.cols.length _ ⟨0,o1,by omega,by simp [edgeA],by omega,rfl⟩ ⟨[(3,3),(90,90),(8,8)],[],[],.mq (.ci 3 (.ci 90 (.ci 8 .nil)))⟩ ?_
  rintro n st ⟨i,o2,hi,ho2,rfl,rfl⟩
  have hal2:=colRows_len a.cols
  (refine gGo ?_;intros)
  refine boolRes_split (fun hb=>?_) (fun hb=>?_)<;>conv=>whnf
  ·have hil:i<a.cols.length:=by omega
   have hb2:o2.length≤100*409600+64*6400:=by
    have:=edgeA_len hcols hl k i
    rw [ho2,List.length_append];omega
   obtain ⟨bs,hbs⟩:∃ bs,bs=l.drop (k+1):=⟨_,rfl⟩
   have hbl:bs.length=l.length-(k+1):=by rw [hbs,List.length_drop]
   have hbm:∀ b∈bs,b∈l:=fun b hb=>by rw [hbs] at hb;exact List.mem_of_mem_drop hb
   have hbt:=tblRows_len bs
   have hdr:((tblRows l).take ((tblRows l).length:Int).toNat).drop (((k:Int)+1).toNat)=tblRows bs:=by
    rw [Int.toNat_natCast,List.take_length,show ((k:Int)+1).toNat=k+1 by omega,hbs]
    unfold tblRows
    rw [List.map_drop]
   (refine gGo ?_;intros)
   refine ⟨tblRows_sz l,?_⟩
   conv=>whnf
   rw [hdr]
   (refine gGo ?_;intros)
   refine W.loopG (fun n st=>∃ (m:Nat) (out:List (List Int)),m≤bs.length∧out=o2++edgeR a i (bs.take m)∧n=bs.length-m∧st=⟨[(0,.sl (tblRows l) false),(3,.bp 3 0),(6,.osl 90 0 0 (relRows out).length (relRows out).length),(28,.sl (tblRows l) false),(29,.int .i64 (tblRows l).length),(30,.int .i64 k),(7,.int .i64 k),(8,.bp 8 0),(36,.sl (colRows a.cols) false),(37,.int .i64 (colRows a.cols).length),(38,.int .i64 i),(9,.int .i64 i),(44,.sl (tblRows bs) false),(45,.int .i64 (tblRows bs).length),(46,.int .i64 m)],[(3,[.rows 4 [fracV 0 1] none]),(90,[.rows 11 (relRows out) (some [])]),(8,[.rows 3 [a.row] none])],[3,90,8]⟩)
    bs.length _ ⟨0,o2,by omega,by simp [edgeR],by omega,rfl⟩ ⟨[(3,3),(90,90),(8,8)],[],[],.mq (.ci 3 (.ci 90 (.ci 8 .nil)))⟩ ?_
   rintro n st ⟨m,o3,hm,ho3,rfl,rfl⟩
   (refine gGo ?_;intros)
   refine boolRes_split (fun hb=>?_) (fun hb=>?_)<;>conv=>whnf
   ·have hml:m<bs.length:=by omega
    have hgm:=tblRows_get hml
    have hbk:=hal _ (hbm _ (List.getElem_mem hml))
    have hcb:=hcols _ (hbm _ (List.getElem_mem hml))
    have hb3:o3.length≤100*409600+64*6400+100*64:=by
     have:=edgeR_len a i (bs:=bs.take m) (fun b hb=>hcols _ (hbm _ (List.mem_of_mem_take hb)))
     rw [List.length_take] at this
     rw [ho3,List.length_append];omega
    have htk:bs.take (m+1)=bs.take m++[bs[m]]:=List.take_succ_eq_append_getElem hml
    generalize bs[m]=b at *
    have hbl2:=colRows_len b.cols
    (refine gGo ?_;intros)
    refine rowAt_of (by simpa using hgm) ?_
    conv=>whnf
    (refine gGo ?_;intros)
    refine W.loopG (fun n st=>∃ (j:Nat) (out:List (List Int)),j≤b.cols.length∧out=o3++edgeB a i b j∧n=b.cols.length-j∧st=⟨[(0,.sl (tblRows l) false),(3,.bp 3 0),(6,.osl 90 0 0 (relRows out).length (relRows out).length),(28,.sl (tblRows l) false),(29,.int .i64 (tblRows l).length),(30,.int .i64 k),(7,.int .i64 k),(8,.bp 8 0),(36,.sl (colRows a.cols) false),(37,.int .i64 (colRows a.cols).length),(38,.int .i64 i),(9,.int .i64 i),(44,.sl (tblRows bs) false),(45,.int .i64 (tblRows bs).length),(46,.int .i64 m),(11,.bp 11 0),(51,.sl (colRows b.cols) false),(52,.int .i64 (colRows b.cols).length),(53,.int .i64 j)],[(3,[.rows 4 [fracV 0 1] none]),(90,[.rows 11 (relRows out) (some [])]),(8,[.rows 3 [a.row] none]),(11,[.rows 3 [b.row] none])],[3,90,8,11]⟩)
     b.cols.length _ ⟨0,o3,by omega,by simp [edgeB],by omega,rfl⟩ ⟨[(3,3),(90,90),(8,8),(11,11)],[],[],.mq (.ci 3 (.ci 90 (.ci 8 (.ci 11 .nil))))⟩ ?_
    rintro n st ⟨j,out,hj,hout,rfl,rfl⟩
    have hrl:=relRows_len out
    (refine gGo ?_;intros)
    refine boolRes_split (fun hb=>?_) (fun hb=>?_)<;>conv=>whnf
    ·have hjl:j<b.cols.length:=by omega
     have hb4:out.length≤100*409600+64*6400+100*64+64:=by
      have:=edgeB_len a i b j
      rw [hout,List.length_append];omega
     have spO:=of29_spec a i b j
     obtain ⟨x,y,r6,r7,r8,r9,r10,hof,hx,hy⟩:=of29_form hak hbk hil hjl
     have hnx:edgeB a i b (j+1)=edgeB a i b j++edgeC a i b j:=range_flat _ _
     have hC:edgeC a i b j=if 0<(x:Int) then [[a.id,(i:Int),b.id,(j:Int),(x:Int),(y:Int),r6,r7,r8,r9,r10]] else []:=by
      unfold edgeC
      rw [hof];rfl
     rw [hof] at spO
     by_cases hx0:x=0
     ·subst hx0
      rw [if_neg (by decide)] at hC
      (refine gGo ?_;intros)
      (refine gPC (spO) ?_;conv=>whnf)
      (refine gGo ?_;intros)
      refine ⟨_,_,?_,⟨j+1,out,by omega,(by rw [hout,hnx,hC,List.append_nil]),rfl,rfl⟩,⟨[(3,3),(90,90),(8,8),(11,11)],[],[],.mq (.ci 3 (.ci 90 (.ci 8 (.ci 11 .nil))))⟩⟩
      omega
     ·rw [if_pos (by omega)] at hC
      have spC:=contained_spec a.id i b.id j r6 r7 r8 r9 r10 x y hx0 hx hy
      have spL:=less23_spec (partF x (x+y)).1 (partF x (x+y)).2 (partF_ok (by omega) (by omega) (by omega))
      generalize (partF x (x+y)).1=p2 at *
      generalize (partF x (x+y)).2=q2 at *
      (refine gGo ?_;intros)
      (refine gPC (spO) ?_;conv=>whnf)
      (refine gGo ?_;intros)
      (refine gPC (spC) ?_;conv=>whnf)
      (refine gGo ?_;intros)
      (refine gPC (spL) ?_;conv=>whnf)
      (refine gGo ?_;intros)
      refine ⟨⟨rowsSz_cons rfl rowsSz_nil,rfl⟩,fitsN (n:=(relRows out).length+1) (b:=88) (by omega) (by omega),.inl ⟨rfl,rfl,?_⟩⟩
      conv=>whnf
      (refine gGo ?_;intros)
      refine ⟨_,_,?_,⟨j+1,out++[[a.id,(i:Int),b.id,(j:Int),(x:Int),(y:Int),r6,r7,r8,r9,r10]],by omega,(by rw [hout,hnx,hC,List.append_assoc]),rfl,rfl⟩,[(3,3),(90,90),(8,8),(11,11)],[],[],?_⟩
      ·omega
      ·rw [relRows_snoc,List.length_append]
       exact LeG.mq (.ci 3 (.ci 90 (.ci 8 (.ci 11 .nil))))
    ·have hje:j=b.cols.length:=by omega
     subst hje
     (refine gGo ?_;intros)
     refine ⟨_,_,?_,⟨m+1,out,by omega,(by rw [hout,ho3,htk,edgeR_snoc,List.append_assoc]),rfl,rfl⟩,⟨[(3,3),(90,90),(8,8)],[],[],.mq (.ci 3 (.ci 90 (.ci 8 .nil)))⟩⟩
     omega
   ·have hme:m=bs.length:=by omega
    subst hme
    (refine gGo ?_;intros)
    refine ⟨_,_,?_,⟨i+1,o3,by omega,(by rw [ho3,List.take_length,ho2,List.append_assoc,edgeA_succ,hgd,←hbs]),rfl,rfl⟩,⟨[(3,3),(90,90),(8,8)],[],[],.mq (.ci 3 (.ci 90 (.ci 8 .nil)))⟩⟩
    omega
  ·have hie:i=a.cols.length:=by omega
   subst hie
   (refine gGo ?_;intros)
   refine ⟨_,_,?_,⟨k+1,o2,by omega,(by rw [ho2,ho1,edgeL_succ,hgd]),rfl,rfl⟩,⟨[(3,3),(90,90)],[],[],.mq (.ci 3 (.ci 90 .nil))⟩⟩
   omega
 ·have hke:k=l.length:=by omega
  subst hke
  rw [show edges l=o1 from ho1.symm]
  (refine gGo ?_;intros)
  refine W.leG (mp:=[]) (bo:=[90]) (st':=⟨[(4,.sl (relRows o1) false),(5,.int .i64 0)],[],[]⟩)
   (LeG.mk' rfl rfl rfl ⟨⟨_,Lent.whole rfl rfl rfl rfl (.inl rfl),rfl⟩,⟨_,.refl _,rfl⟩,trivial⟩ .nil rfl rfl (by rw [hK];rfl)) ?_
  (refine gM ?_;conv=>whnf)
  exact ret0 rfl rfl rfl
def turnL (r:List Int):List Int:=[r.getD 2 0,r.getD 3 0,r.getD 0 0,r.getD 1 0,r.getD 4 0,r.getD 6 0,r.getD 5 0,r.getD 8 0,r.getD 7 0,r.getD 10 0,r.getD 9 0]
def fromC (t:Int) (r:List Int):List (List Int):=if r.getD 0 0=t then [r] else if r.getD 2 0=t then [turnL r] else []
def fromL (E:List (List Int)) (t:Int):List (List Int):=E.flatMap (fromC t)
def Rel11 (r:List Int):Prop:=r.length=11
theorem rel11 {r:List Int}(h:Rel11 r):∃ r0 r1 r2 r3 r4 r5 r6 r7 r8 r9 r10,r=[r0,r1,r2,r3,r4,r5,r6,r7,r8,r9,r10]:=by
 match r,h with
 | [r0,r1,r2,r3,r4,r5,r6,r7,r8,r9,r10],_=>exact ⟨_,_,_,_,_,_,_,_,_,_,_,rfl⟩
theorem of29_11 (a:Table) (i:Int) (b:Table) (j:Int):Rel11 (of29E a i b j).1:=by
 unfold of29E
 split
 ·rfl
 ·split
  ·rfl
  ·rfl
theorem edges_11 (l:List Table):∀ r∈edges l,Rel11 r:=by
 intro r hr
 unfold edges edgeL edgeA edgeR edgeB at hr
 simp only [List.mem_flatMap] at hr
 obtain ⟨k,_,i,_,b,_,j,_,h⟩:=hr
 unfold edgeC at h
 split at h
 ·rw [List.mem_singleton.1 h];exact of29_11 _ _ _ _
 ·cases h
theorem from_11 {E:List (List Int)}(h:∀ r∈E,Rel11 r) (t:Int):∀ r∈fromL E t,Rel11 r:=by
 intro r hr
 unfold fromL at hr
 rw [List.mem_flatMap] at hr
 obtain ⟨q,hq,h1⟩:=hr
 unfold fromC at h1
 split at h1
 ·rw [List.mem_singleton.1 h1];exact h q hq
 ·split at h1
  ·rw [List.mem_singleton.1 h1];rfl
  ·cases h1
theorem fromC_len (t:Int) (r:List Int):(fromC t r).length≤1:=by
 unfold fromC;split;simp;split<;>simp
theorem from_len (E:List (List Int)) (t:Int):(fromL E t).length≤E.length:=by
 have:=flat_le (fromC t) 1 E fun r _=>fromC_len t r
 unfold fromL;omega
theorem relRows_get {l:List (List Int)}{i:Nat}(h:i<l.length):(relRows l)[i]?=some (intsV l[i]):=by simp [relRows,h]
theorem edges_spec (l:List Table) (hv:listB l=true) (hl:l.length≤100):Spec Tryz.prog 8 [.sl (tblRows l) false] [] (.sl (relRows (edges l)) false) []:=by
 have sp1:=zero23_spec
 have sp2:=build_spec l hv hl
 refine gEn env Tryz.func8 fun Γ hN hK hML=>?_
 (refine gGo ?_;intros)
 (refine gPC (sp1) ?_;conv=>whnf)
 (refine gGo ?_;intros)
 (refine gPC (sp2) ?_;conv=>whnf)
 (refine gGr ?_;intros)
 exact ret0 rfl rfl rfl
set_option maxHeartbeats 8000000 in
theorem from_spec (E:List (List Int)) (t:Int) (h:∀ r∈E,Rel11 r) (hE:E.length≤100000000):Spec Tryz.prog 56 [.sl (relRows E) false,.int .i64 t] [] (.sl (relRows (fromL E t)) false) []:=by
 have hel:=relRows_len E
 refine gEn env Tryz.func56 fun Γ hN hK hML=>?_
 (refine gGo ?_;intros)
 refine W.ownNil 5 90 11 rfl rfl ?_
 refine W.loopG (fun n st=>∃ (k:Nat) (out:List (List Int)),k≤E.length∧out=fromL (E.take k) t∧n=E.length-k∧st=⟨[(1,.int .i64 t),(5,.osl 90 0 0 (relRows out).length (relRows out).length),(8,.sl (relRows E) false),(9,.int .i64 (relRows E).length),(10,.int .i64 k)],[(90,[.rows 11 (relRows out) (some [])])],[90]⟩)
  E.length _ ⟨0,[],by omega,rfl,by omega,rfl⟩ ⟨[(90,90)],[],[],.mq (.ci 90 .nil)⟩ ?_
 rintro n st ⟨k,out,hk,hout,rfl,rfl⟩
 have hol:=relRows_len out
 (refine gGo ?_;intros)
 refine boolRes_split (fun hb=>?_) (fun hb=>?_)<;>conv=>whnf
 ·have hkl:k<E.length:=by omega
  have hg:=relRows_get hkl
  have h11:=h _ (List.getElem_mem hkl)
  have hb1:out.length≤k:=by
   have:=from_len (E.take k) t
   rw [List.length_take] at this
   rw [hout];omega
  have hnx:fromL (E.take (k+1)) t=fromL (E.take k) t++fromC t E[k]:=by
   unfold fromL
   rw [List.take_succ_eq_append_getElem hkl,List.flatMap_append,List.flatMap_cons,List.flatMap_nil,List.append_nil]
  generalize E[k]=r at *
  obtain ⟨r0,r1,r2,r3,r4,r5,r6,r7,r8,r9,r10,rfl⟩:=rel11 h11
  have hC:fromC t [r0,r1,r2,r3,r4,r5,r6,r7,r8,r9,r10]=if r0=t then [[r0,r1,r2,r3,r4,r5,r6,r7,r8,r9,r10]] else if r2=t then [[r2,r3,r0,r1,r4,r6,r5,r8,r7,r10,r9]] else []:=rfl
  (refine gGo ?_;intros)
  refine rowAt_of (by simpa using hg) ?_
  conv=>whnf
  (refine gGo ?_;intros)
  refine boolRes_split (fun hb=>?_) (fun hb=>?_)<;>conv=>whnf
  ·rw [if_pos hb] at hC
   (refine gGo ?_;intros)
   refine ⟨⟨rowsSz_cons rfl rowsSz_nil,rfl⟩,fitsN (n:=(relRows out).length+1) (b:=88) (by omega) (by omega),.inl ⟨rfl,rfl,?_⟩⟩
   conv=>whnf
   (refine gGo ?_;intros)
   refine ⟨_,_,?_,⟨k+1,out++[[r0,r1,r2,r3,r4,r5,r6,r7,r8,r9,r10]],by omega,(by rw [hout,hnx,hC]),rfl,rfl⟩,[(90,90)],[],[],?_⟩
   ·omega
   ·rw [relRows_snoc,List.length_append]
    exact LeG.mq (.ci 90 .nil)
  ·rw [if_neg hb] at hC
   (refine gGo ?_;intros)
   refine boolRes_split (fun hb=>?_) (fun hb=>?_)<;>conv=>whnf
   ·rw [if_pos hb] at hC
    have spT:=turn29_spec r0 r1 r2 r3 r4 r5 r6 r7 r8 r9 r10
    (refine gGo ?_;intros)
    (refine gPC (spT) ?_;conv=>whnf)
    (refine gGo ?_;intros)
    refine ⟨⟨rowsSz_cons rfl rowsSz_nil,rfl⟩,fitsN (n:=(relRows out).length+1) (b:=88) (by omega) (by omega),.inl ⟨rfl,rfl,?_⟩⟩
    conv=>whnf
    (refine gGo ?_;intros)
    refine ⟨_,_,?_,⟨k+1,out++[[r2,r3,r0,r1,r4,r6,r5,r8,r7,r10,r9]],by omega,(by rw [hout,hnx,hC]),rfl,rfl⟩,[(90,90)],[],[],?_⟩
    ·omega
    ·rw [relRows_snoc,List.length_append]
     exact LeG.mq (.ci 90 .nil)
   ·rw [if_neg hb] at hC
    (refine gGo ?_;intros)
    refine ⟨_,_,?_,⟨k+1,out,by omega,(by rw [hout,hnx,hC,List.append_nil]),rfl,rfl⟩,⟨[(90,90)],[],[],.mq (.ci 90 .nil)⟩⟩
    omega
 ·have hke:k=E.length:=by omega
  subst hke
  rw [List.take_length] at hout
  rw [←hout]
  (refine gGo ?_;intros)
  refine W.leG (mp:=[]) (bo:=[90]) (st':=⟨[(4,.sl (relRows out) false)],[],[]⟩)
   (LeG.mk' rfl rfl rfl ⟨⟨_,Lent.whole rfl rfl rfl rfl (.inl rfl),rfl⟩,trivial⟩ .nil rfl rfl (by rw [hK];rfl)) ?_
  (refine gM ?_;conv=>whnf)
  exact ret0 rfl rfl rfl
def stpOf (r:List Int):Stp:=⟨r.getD 0 0,r.getD 1 0,r.getD 2 0,r.getD 3 0⟩
set_option maxHeartbeats 4000000 in
theorem get3_spec (l:List Table) (t c:Int):Spec Tryz.prog 57 [.sl (tblRows l) false,.agg [.int .i64 t,.int .i64 c]] [] (.tup [.agg ((getC l t c).getD Column.zero).row,.bool (getC l t c).isSome]) []:=by
 have sp:=find3_spec l t
 refine gEn env Tryz.func57 fun Γ hN hK hML=>?_
 (refine gGo ?_;intros)
 cases hf:findT l t with
 | none =>
  rw [hf] at sp
  (refine gPC (sp) ?_;conv=>whnf)
  have hg:getC l t c=none:=by unfold getC;rw [hf]
  rw [hg]
  (refine gGo ?_;intros)
  (refine gM ?_;conv=>whnf)
  exact retH rfl (.norm _) rfl rfl rfl trivial
 | some tb =>
  rw [hf] at sp
  simp only [Option.getD_some,Option.isSome_some] at sp
  (refine gPC (sp) ?_;conv=>whnf)
  have hcl:=colRows_len tb.cols
  by_cases hc:0≤c∧c<tb.cols.length
  ·obtain ⟨k,rfl⟩:∃ k:Nat,c=k:=⟨c.toNat,by omega⟩
   have hk:k<tb.cols.length:=by omega
   have hg:getC l t k=some tb.cols[k]:=by
    unfold getC;rw [hf]
    simp only
    rw [if_pos hc,Int.toNat_natCast,List.getElem?_eq_getElem hk]
   have hx:=colRows_get hk
   rw [hg]
   generalize tb.cols[k]=col at *
   (refine gGo ?_;intros)
   refine rowAt_of (by simpa using hx) ?_
   conv=>whnf
   (refine gGo ?_;intros)
   (refine gM ?_;conv=>whnf)
   exact retH rfl (.norm _) rfl rfl rfl trivial
  ·have hg:getC l t c=none:=by
    unfold getC;rw [hf]
    simp only
    rw [if_neg hc]
   rw [hg]
   by_cases h0:c<0
   ·(refine gGo ?_;intros)
    (refine gM ?_;conv=>whnf)
    exact retH rfl (.norm _) rfl rfl rfl trivial
   ·(refine gGo ?_;intros)
    (refine gM ?_;conv=>whnf)
    exact retH rfl (.norm _) rfl rfl rfl trivial
def placeZ (p:Pth) (n:Nat) (t:Int):Int:=match ixI t (befT p n) with | some i=>(i:Int) | none=>-1
theorem ixI_app {t:Int}:∀ {a b:List Int},ixI t (a++b)=match ixI t a with | some j=>some j | none=>(ixI t b).map (· + a.length)
 | [],b=>by simp [ixI]
 | u::a,b=>by
  by_cases h:t=u
  ·simp [ixI,h]
  ·simp only [List.cons_append,ixI,h,if_false,ixI_app (a:=a)]
   cases ixI t a with
   | some j=>rfl
   | none =>
    simp only [Option.map_none]
    cases ixI t b with
    | none=>rfl
    | some j=>simp only [Option.map_some,List.length_cons];congr 1
set_option maxHeartbeats 4000000 in
theorem place_spec (p:Pth) (n:Nat) (t:Int) (hn:n≤p.steps.length) (hl:p.steps.length≤100):Spec Tryz.prog 58 [.agg p.row,.int .i64 n,.int .i64 t] [] (.int .i64 (placeZ p n t)) []:=by
 have hsl:=stpRows_len p.steps
 refine gEn env Tryz.func58 fun Γ hN hK hML=>?_
 (refine gGo ?_;intros)
 refine boolRes_split (fun hb=>?_) (fun hb=>?_)<;>conv=>whnf
 ·have hz:placeZ p n t=0:=by
   unfold placeZ befT
   simp only [ixI,hb,if_true];rfl
  rw [hz]
  (refine gGr ?_;intros)
  exact ret0 rfl rfl rfl
 ·have hz0:ixI t (befT p 0)=none:=by
   show (if t=p.start then some 0 else _)=none
   rw [if_neg (fun e=>hb e.symm)];rfl
  obtain ⟨S,hS⟩:∃ S,S=p.steps.take n:=⟨_,rfl⟩
  have hSl:S.length=n:=by rw [hS,List.length_take];omega
  have hSr:=stpRows_len S
  have hdr:((stpRows p.steps).take (n:Int).toNat).drop (0:Int).toNat=stpRows S:=by
   rw [Int.toNat_natCast,hS]
   unfold stpRows
   rw [List.map_take];rfl
  (refine gGo ?_;intros)
  refine ⟨?_,?_⟩
  ·unfold rowsSz
   intro r hr
   obtain ⟨s,_,rfl⟩:=List.mem_map.1 hr
   rfl
  conv=>whnf
  rw [hdr]
  (refine gGo ?_;intros)
  refine W.loopG (fun m st=>∃ k:Nat,k≤n∧ixI t (befT p k)=none∧m=n-k∧st=⟨[(2,.int .i64 t),(16,.sl (stpRows S) false),(17,.int .i64 (stpRows S).length),(18,.int .i64 k)],[],[]⟩)
   n _ ⟨0,by omega,hz0,by omega,rfl⟩ ⟨[],[],[],.mq .nil⟩ ?_
  rintro m st ⟨k,hk,hz,rfl,rfl⟩
  (refine gGo ?_;intros)
  refine boolRes_split (fun hb=>?_) (fun hb=>?_)<;>conv=>whnf
  ·have hkn:k<n:=by omega
   have hkS:k<S.length:=by omega
   have hg:=stpRows_get hkS
   have hSk:S[k]=p.steps[k]:=by subst hS;simp
   have hsn:=befT_snoc p (show k<p.steps.length by omega)
   have hix:ixI t (befT p (k+1))=if t=p.steps[k].tt then some (k+1) else none:=by
    rw [hsn,ixI_app,hz]
    simp only [ixI]
    rw [befT_len p (by omega)]
    split
    ·simp
    ·rfl
   rw [hSk] at hg
   generalize p.steps[k]=s at *
   (refine gGo ?_;intros)
   refine rowAt_of (by simpa using hg) ?_
   conv=>whnf
   (refine gGo ?_;intros)
   refine boolRes_split (fun hb=>?_) (fun hb=>?_)<;>conv=>whnf
   ·rw [if_pos hb.symm] at hix
    have hz2:placeZ p n t=((k+1:Nat):Int):=by
     unfold placeZ
     have:∃ L,befT p n=befT p (k+1)++L:=by
      unfold befT
      refine ⟨((p.steps.take n).drop (k+1)).map Stp.tt,?_⟩
      rw [List.cons_append,←List.map_append]
      congr 2
      rw [show p.steps.take (k+1)=(p.steps.take n).take (k+1) by rw [List.take_take,Nat.min_eq_left (by omega)],List.take_append_drop]
     obtain ⟨L,hL⟩:=this
     rw [hL,ixI_app,hix]
    rw [hz2]
    (refine gGr ?_;intros)
    exact ret0 rfl rfl rfl
   ·rw [if_neg (fun e=>hb e.symm)] at hix
    (refine gGo ?_;intros)
    refine ⟨_,_,?_,⟨k+1,by omega,hix,rfl,rfl⟩,⟨[],[],[],.mq .nil⟩⟩
    omega
  ·have hke:k=n:=by omega
   subst hke
   have hz2:placeZ p k t=-1:=by unfold placeZ;rw [hz]
   rw [hz2]
   (refine gGr ?_;intros)
   exact ret0 rfl rfl rfl
theorem placeZ_mem (p:Pth) (n:Nat) (t:Int):0≤placeZ p n t↔t∈befT p n:=by
 unfold placeZ
 cases h:ixI t (befT p n) with
 | none=>simp [ixI_none.1 h]
 | some i =>
  have:=List.mem_of_getElem? (ixI_at h)
  simp [this]
set_option maxHeartbeats 16000000 in
theorem valid31_spec (l:List Table) (p:Pth):Spec Tryz.prog 92 [.sl (tblRows l) false,.agg p.row] [] (.int .i64 (validE l p)) []:=by
 have sp1:=validList3_spec l
 have hsl:=stpRows_len p.steps
 refine gEn env Tryz.func92 fun Γ hN hK hML=>?_
 cases hlb:listB l with
 | false =>
  have hE:validE l p=1:=by unfold validE;rw [if_neg (by rw [hlb];decide)]
  rw [hlb] at sp1
  rw [hE]
  (refine gGo ?_;intros)
  (refine gPC (sp1) ?_;conv=>whnf)
  (refine gGr ?_;intros)
  exact ret0 rfl rfl rfl
 | true =>
  rw [hlb] at sp1
  by_cases h4:p.steps.length≤4
  ·have hE:validE l p=if pathB l p=true then 0 else 21:=by unfold validE;rw [if_pos hlb,if_pos h4]
   have sp2:=find3_spec l p.start
   cases hf:findT l p.start with
   | none =>
    have hP:pathB l p=false:=by unfold pathB;rw [hf];rfl
    rw [hf] at sp2
    rw [hE,hP,if_neg (by decide)]
    (refine gGo ?_;intros)
    (refine gPC (sp1) ?_;conv=>whnf)
    (refine gGo ?_;intros)
    (refine gPC (sp2) ?_;conv=>whnf)
    (refine gGr ?_;intros)
    exact ret0 rfl rfl rfl
   | some tb =>
    rw [hf] at sp2
    simp only [Option.getD_some,Option.isSome_some] at sp2
    (refine gGo ?_;intros)
    (refine gPC (sp1) ?_;conv=>whnf)
    (refine gGo ?_;intros)
    (refine gPC (sp2) ?_;conv=>whnf)
    (refine gGo ?_;intros)
    refine W.loopG (fun n st=>∃ k:Nat,k≤p.steps.length∧(∀ i,i<k→stepOK l p i=true)∧n=p.steps.length-k∧st=⟨[(0,.sl (tblRows l) false),(3,.bp 3 0),(32,.sl (stpRows p.steps) false),(33,.int .i64 (stpRows p.steps).length),(34,.int .i64 k)],[(3,[.rows 2 [p.row] none])],[3]⟩)
     p.steps.length _ ⟨0,by omega,fun i hi=>by omega,by omega,rfl⟩ ⟨[(3,3)],[],[],.mq (.ci 3 .nil)⟩ ?_
    rintro n st ⟨k,hk,hok,rfl,rfl⟩
    (refine gGo ?_;intros)
    refine boolRes_split (fun hb=>?_) (fun hb=>?_)<;>conv=>whnf
    ·have hkl:k<p.steps.length:=by omega
     have hg:=stpRows_get hkl
     have hso:stepOK l p k=((getC l p.steps[k].ft p.steps[k].fc).isSome&&((getC l p.steps[k].tt p.steps[k].tc).isSome&&(decide (p.steps[k].ft∈befT p k)&&!decide (p.steps[k].tt∈befT p k)))):=by
      unfold stepOK
      rw [List.getElem?_eq_getElem hkl]
     have hbad:stepOK l p k=false→validE l p=21:=fun h=>by rw [hE,pathB_false hkl h,if_neg (by decide)]
     have hgood:stepOK l p k=true→∀ i,i<k+1→stepOK l p i=true:=fun h i hi=>by
      by_cases e:i=k
      ·subst e;exact h
      ·exact hok i (by omega)
     have pf:=place_spec p k p.steps[k].ft (by omega) (by omega)
     have pt:=place_spec p k p.steps[k].tt (by omega) (by omega)
     have mf:=placeZ_mem p k p.steps[k].ft
     have mt:=placeZ_mem p k p.steps[k].tt
     have gf:=get3_spec l p.steps[k].ft p.steps[k].fc
     have gt:=get3_spec l p.steps[k].tt p.steps[k].tc
     generalize p.steps[k]=s at *
     generalize placeZ p k s.ft=zf at *
     generalize placeZ p k s.tt=zt at *
     generalize (getC l s.ft s.fc).getD Column.zero=c1 at *
     generalize (getC l s.tt s.tc).getD Column.zero=c2 at *
     cases hbf:(getC l s.ft s.fc).isSome with
     | false =>
      rw [hbf] at gf hso
      rw [hbad hso]
      (refine gGo ?_;intros)
      refine rowAt_of (by simpa using hg) ?_
      conv=>whnf
      (refine gGo ?_;intros)
      (refine gPC (gf) ?_;conv=>whnf)
      (refine gGo ?_;intros)
      (refine gPC (gt) ?_;conv=>whnf)
      (refine gGo ?_;intros)
      (refine gGr ?_;intros)
      exact ret0 rfl rfl rfl
     | true =>
      rw [hbf] at gf hso
      cases hbt:(getC l s.tt s.tc).isSome with
      | false =>
       rw [hbt] at gt hso
       rw [hbad hso]
       (refine gGo ?_;intros)
       refine rowAt_of (by simpa using hg) ?_
       conv=>whnf
       (refine gGo ?_;intros)
       (refine gPC (gf) ?_;conv=>whnf)
       (refine gGo ?_;intros)
       (refine gPC (gt) ?_;conv=>whnf)
       (refine gGo ?_;intros)
       (refine gGr ?_;intros)
       exact ret0 rfl rfl rfl
      | true =>
       rw [hbt] at gt hso
       rw [Bool.true_and,Bool.true_and] at hso
       (refine gGo ?_;intros)
       refine rowAt_of (by simpa using hg) ?_
       conv=>whnf
       (refine gGo ?_;intros)
       (refine gPC (gf) ?_;conv=>whnf)
       (refine gGo ?_;intros)
       (refine gPC (gt) ?_;conv=>whnf)
       (refine gGo ?_;intros)
       (refine gPC (pf) ?_;conv=>whnf)
       (refine gGo ?_;intros)
       refine boolRes_split (fun hb=>?_) (fun hb=>?_)<;>conv=>whnf
       ·have hT:=hbad (by rw [hso,decide_eq_false (fun h=>by have:=mf.2 h;omega)];rfl)
        rw [hT]
        (refine gGr ?_;intros)
        exact ret0 rfl rfl rfl
       ·rw [decide_eq_true (mf.1 (by omega)),Bool.true_and] at hso
        (refine gGo ?_;intros)
        (refine gPC (pt) ?_;conv=>whnf)
        (refine gGo ?_;intros)
        refine boolRes_split (fun hb=>?_) (fun hb=>?_)<;>conv=>whnf
        ·have hT:=hbad (by rw [hso,decide_eq_true (mt.1 (by omega))];rfl)
         rw [hT]
         (refine gGr ?_;intros)
         exact ret0 rfl rfl rfl
        ·have hT:=hgood (by rw [hso,decide_eq_false (fun h=>by have:=mt.2 h;omega)];rfl)
         (refine gGo ?_;intros)
         refine ⟨_,_,?_,⟨k+1,by omega,hT,rfl,rfl⟩,⟨[(3,3)],[],[],.mq (.ci 3 .nil)⟩⟩
         omega
    ·have hke:k=p.steps.length:=by omega
     subst hke
     have hP:pathB l p=true:=pathB_true (by rw [hf];rfl) hok
     rw [hE,hP,if_pos rfl]
     (refine gGr ?_;intros)
     exact ret0 rfl rfl rfl
  ·have hE:validE l p=3:=by unfold validE;rw [if_pos hlb,if_neg h4]
   rw [hE]
   (refine gGo ?_;intros)
   (refine gPC (sp1) ?_;conv=>whnf)
   (refine gGr ?_;intros)
   exact ret0 rfl rfl rfl
def tabsM (l:List Table) (p:Pth):List Table:=tabOf l p.start::p.steps.map fun s=>tabOf l s.tt
theorem tabsM_len (l:List Table) (p:Pth):(tabsM l p).length=p.steps.length+1:=by simp [tabsM]
theorem tabsM_get (l:List Table) (p:Pth) {i:Nat}(h:i≤p.steps.length):(tabsM l p)[i]?=some (tabN l p i):=by
 cases i with
 | zero=>rfl
 | succ q =>
  have hq:q<p.steps.length:=by omega
  unfold tabsM tabN nodeAt stpAt
  simp [hq]
set_option maxHeartbeats 8000000 in
theorem tables31_spec (l:List Table) (p:Pth) (hl:p.steps.length≤100):Spec Tryz.prog 66 [.sl (tblRows l) false,.agg p.row] [] (.sl (tblRows (tabsM l p)) false) []:=by
 have sp1:=find3_spec l p.start
 have hst:(findT l p.start).getD Table.zero=tabOf l p.start:=rfl
 rw [hst] at sp1
 generalize (findT l p.start).isSome=b1 at *
 have hsl:=stpRows_len p.steps
 have h0:tblRows [tabOf l p.start]=[(tabOf l p.start).row]:=rfl
 refine gEn env Tryz.func66 fun Γ hN hK hML=>?_
 (refine gGo ?_;intros)
 (refine gPC (sp1) ?_;conv=>whnf)
 (refine gGl ?_;intros)
 refine Or.inl ?_
 conv=>whnf
 (refine gGo ?_;intros)
 refine W.leG (mp:=[(3,3),(20,20)]) (bo:=[]) (st':=⟨[(0,.sl (tblRows l) false),(7,.osl 20 0 0 1 1),(22,.sl (stpRows p.steps) false),(23,.int .i64 (stpRows p.steps).length),(24,.int .i64 0)],[(3,[.rows 2 [p.row] none]),(20,[.rows 3 (tblRows [tabOf l p.start]) (some [])])],[3,20]⟩)
  (LeG.mq (.ci 3 (.cons 20 (b1:=.rows 3 (tblRows [tabOf l p.start]) (some [])) rfl rfl (.pure _ (tblRows [tabOf l p.start]) _ ?_) rfl .nil))) ?_
 ·intro r hr v hv
  rw [h0] at hr
  rw [List.mem_singleton.1 hr] at hv
  simp only [Table.row,List.mem_cons,List.not_mem_nil,or_false] at hv
  rcases hv with rfl | rfl | rfl<;>rfl
 refine W.loopG (fun n st=>∃ (k:Nat) (out:List Table),k≤p.steps.length∧out=tabOf l p.start::(p.steps.take k).map (fun s=>tabOf l s.tt)∧n=p.steps.length-k∧st=⟨[(0,.sl (tblRows l) false),(7,.osl 20 0 0 (tblRows out).length (tblRows out).length),(22,.sl (stpRows p.steps) false),(23,.int .i64 (stpRows p.steps).length),(24,.int .i64 k)],[(3,[.rows 2 [p.row] none]),(20,[.rows 3 (tblRows out) (some [])])],[3,20]⟩)
  p.steps.length _ ⟨0,[tabOf l p.start],by omega,rfl,by omega,rfl⟩ ⟨[(3,3),(20,20)],[],[],.mq (.ci 3 (.ci 20 .nil))⟩ ?_
 rintro n st ⟨k,out,hk,hout,rfl,rfl⟩
 have hol:=tblRows_len out
 have hol2:out.length=k+1:=by rw [hout,List.length_cons,List.length_map,List.length_take];omega
 (refine gGo ?_;intros)
 refine boolRes_split (fun hb=>?_) (fun hb=>?_)<;>conv=>whnf
 ·have hkl:k<p.steps.length:=by omega
  have hg:=stpRows_get hkl
  have sp2:=find3_spec l p.steps[k].tt
  have hst2:(findT l p.steps[k].tt).getD Table.zero=tabOf l p.steps[k].tt:=rfl
  rw [hst2] at sp2
  generalize (findT l p.steps[k].tt).isSome=b2 at *
  have hnx:tabOf l p.start::(p.steps.take (k+1)).map (fun s=>tabOf l s.tt)=(tabOf l p.start::(p.steps.take k).map (fun s=>tabOf l s.tt))++[tabOf l p.steps[k].tt]:=by
   rw [List.take_succ_eq_append_getElem hkl,List.map_append];rfl
  generalize p.steps[k]=s at *
  (refine gGo ?_;intros)
  refine rowAt_of (by simpa using hg) ?_
  conv=>whnf
  (refine gGo ?_;intros)
  (refine gPC (sp2) ?_;conv=>whnf)
  (refine gGo ?_;intros)
  refine ⟨⟨rowsSz_cons rfl rowsSz_nil,rfl⟩,fitsN (n:=(tblRows out).length+1) (b:=48) (by omega) (by omega),.inl ⟨rfl,rfl,?_⟩⟩
  conv=>whnf
  (refine gGo ?_;intros)
  refine ⟨_,_,?_,⟨k+1,out++[tabOf l s.tt],by omega,(by rw [hnx,hout]),rfl,rfl⟩,[(3,3),(20,20)],[],[],?_⟩
  ·omega
  ·have e:=tblRows_snoc out (tabOf l s.tt)
   rw [e,List.length_append]
   exact LeG.mq (.ci 3 (.ci 20 .nil))
 ·have hke:k=p.steps.length:=by omega
  subst hke
  rw [List.take_length] at hout
  rw [show tabsM l p=out from hout.symm]
  (refine gGo ?_;intros)
  refine W.leG (mp:=[]) (bo:=[20]) (st':=⟨[(4,.sl (tblRows out) false)],[],[]⟩)
   (LeG.mk' rfl rfl rfl ⟨⟨_,Lent.whole rfl rfl rfl rfl (.inl rfl),rfl⟩,trivial⟩ .nil rfl rfl (by rw [hK];rfl)) ?_
  (refine gM ?_;conv=>whnf)
  exact ret0 rfl rfl rfl
set_option maxHeartbeats 4000000 in
theorem fit_spec (a b:Cell):Spec Tryz.prog 94 [.agg a.row,.agg b.row] [] (.bool (fitC a b)) []:=by
 obtain ⟨an,at_⟩:=a
 obtain ⟨bn,bt⟩:=b
 refine gEn env Tryz.func94 fun Γ hN hK hML=>?_
 cases an with
 | true =>
  rw [show fitC ⟨true,at_⟩ ⟨bn,bt⟩=false from rfl]
  (refine gGr ?_;intros)
  exact ret0 rfl rfl rfl
 | false =>
  cases bn with
  | true =>
   rw [show fitC ⟨false,at_⟩ ⟨true,bt⟩=false from rfl]
   (refine gGr ?_;intros)
   exact ret0 rfl rfl rfl
  | false =>
   rw [show fitC ⟨false,at_⟩ ⟨false,bt⟩=decide (at_=bt) from rfl]
   (refine gGo ?_;intros)
   refine boolRes_keep ?_
   conv=>whnf
   (refine gGr ?_;intros)
   exact ret0 rfl rfl rfl
section
variable (l:List Table) (p:Pth)
def extF (g:List Nat→List (List Nat)) (hv:List Nat) (y:Nat):List (List Nat):=if stepFits l p (hv.length-1) (hv.getD (parI p (hv.length-1)) 0) y=true then g (hv++[y]) else []
def extN (g:List Nat→List (List Nat)) (hv:List Nat) (n:Nat):List (List Nat):=(List.range n).flatMap (extF l p g hv)
def ext:Nat→List Nat→List (List Nat)
 | 0,hv=>[hv]
 | k+1,hv=>extN l p (ext k) hv (rowsN (tabN l p hv.length))
end
end Go.Sx.Sp
namespace Go.Sx.Sp
open Go Go.Sx Go.Proofs
attribute [local irreducible] GoodW famL
section
variable {l:List Table}{p:Pth}
variable (l p) in
end
section
variable {l:List Table}{p:Pth}
end
end Go.Sx.Sp
namespace Go.Sx.Sp
open Go Go.Sx Go.Proofs
attribute [local irreducible] GoodW famL
end Go.Sx.Sp
