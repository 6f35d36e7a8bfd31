/- The table behind a delta and the delta that takes it back, as the document tells them. -/
import Derived.Test.YthhhdpnchjnfnaaDoorHOne
import Derived.Test.YthhhdpnchjnfnaaDoorSxFour
set_option linter.unusedVariables false
set_option linter.unusedSimpArgs false
namespace Go.Sx.Sp
open Go Go.Sx Go.Proofs
attribute [local irreducible] GoodW famL
set_option maxHeartbeats 32000000 in
theorem apply37_spec (t:Table) (key:Int) (d:Delta) (hdd:d.drop.length≤4294967296) (hda:d.add.length≤4294967296):Spec Tryd.prog 12 [.agg t.row,.int .i64 key,.agg d.row] [] (.tup [.agg (applyM t key d).1.row,.int .i64 (applyM t key d).2]) []:=by
 have sp1:=valid3_spec t
 have spC:=check37_spec t key
 have spR:=rows3_spec t
 have hdl:=cellRows_len d.drop
 have hal:=lineRows_len d.add
 have htl:=colRows_len t.cols
 have hbad:mayM t key d≠0→applyM t key d=(Table.zero,mayM t key d):=fun h=>by simp [applyM,h]
 refine gEn env Tryd.func12 fun Γ hN hK hML=>?_
 refine gA ?_
 (refine gE env hN (by kernel_rfl) ?_;conv=>whnf)
 (refine gGs ?_;intros)
 refine W.leG (mp:=[(6,6)]) (bo:=[3,5]) (st':=⟨[(1,.int .i64 key),(3,.ro t.row 0),(5,.ro d.row 0),(6,.bp 6 0),(7,.int .i64 0)],[(6,[.rows 3 [[.int .i64 0,.str [],.nils]] none])],[6]⟩)
  (LeG.mk' rfl rfl rfl ⟨⟨_,.refl _,rfl⟩,⟨_,.bp 3 0 3 t.row none rfl rfl (by simp) (.inr rfl),rfl⟩,⟨_,.bp 5 0 2 d.row none rfl rfl (by simp) (.inr rfl),rfl⟩,⟨_,.refl _,rfl⟩,⟨_,.refl _,rfl⟩,trivial⟩ (.ci 6 .nil) rfl rfl (by rw [hK];rfl)) ?_
 cases hv:validB t with
 | false =>
  have hm:mayM t key d=1:=by unfold mayM;rw [if_neg (by rw [hv];simp)]
  rw [hbad (by rw [hm];decide),hm]
  rw [hv] at sp1
  (refine gGo ?_;intros)
  (refine gPC (sp1) ?_;conv=>whnf)
  (refine gGo ?_;intros)
  (refine gM ?_;conv=>whnf)
  exact retH rfl (.norm _) rfl rfl rfl trivial
 | true =>
 rw [hv] at sp1
 have hg1:goodD t.cols.length d=false→applyM t key d=(Table.zero,1):=fun h=>by
  have hm:mayM t key d=1:=by unfold mayM;rw [if_neg (by rw [h];simp)]
  rw [hbad (by rw [hm];decide),hm]
 have hgd:goodD t.cols.length d=(d.add.all (fun r=>decide ((r.length:Int)=t.cols.length)&&!r.any badB)&&!d.drop.any badB):=rfl
 (refine gGo ?_;intros)
 (refine gPC (sp1) ?_;conv=>whnf)
 (refine gGo ?_;intros)
 refine W.loopG (fun m st=>∃ j:Nat,j≤d.add.length∧(d.add.take j).all (fun r=>decide ((r.length:Int)=t.cols.length)&&!r.any badB)=true∧m=d.add.length-j∧st=⟨[(1,.int .i64 key),(3,.ro t.row 0),(5,.ro d.row 0),(6,.bp 6 0),(7,.int .i64 0),(33,.sl (lineRows d.add) false),(34,.int .i64 (lineRows d.add).length),(35,.int .i64 (j:Nat))],[(6,[.rows 3 [[.int .i64 0,.str [],.nils]] none])],[6]⟩)
  d.add.length _ ⟨0,by omega,rfl,by omega,rfl⟩ ⟨[(6,6)],[],[],.mq (.ci 6 .nil)⟩ ?_
 rintro m st ⟨j,hj,hall,rfl,rfl⟩
 (refine gGo ?_;intros)
 refine boolRes_split (fun hb=>?_) (fun hb=>?_)<;>conv=>whnf
 ·have hlt:j<d.add.length:=by omega
  have hgx:=lineRows_get hlt
  have hns:=all_snoc (fun r:List Cell=>decide ((r.length:Int)=t.cols.length)&&!r.any badB) hlt
  have haf:=all_false (p:=fun r:List Cell=>decide ((r.length:Int)=t.cols.length)&&!r.any badB) hlt
  generalize d.add[j]=r at *
  have hrl:=cellRows_len r
  (refine gGo ?_;intros)
  refine rowAt_of (by simpa using hgx) ?_
  conv=>whnf
  (refine gGo ?_;intros)
  refine boolRes_split (fun hb=>?_) (fun hb=>?_)<;>conv=>whnf
  ·rw [hg1 (by rw [hgd,haf (by rw [decide_eq_false (by omega)];rfl)];rfl)]
   (refine gGo ?_;intros)
   (refine gM ?_;conv=>whnf)
   exact retH rfl (.norm _) rfl rfl rfl trivial
  ·have hrn:r.length=t.cols.length:=by omega
   (refine gGo ?_;intros)
   refine W.loopG (fun m st=>∃ i:Nat,i≤r.length∧(r.take i).any badB=false∧m=r.length-i∧st=⟨[(1,.int .i64 key),(3,.ro t.row 0),(5,.ro d.row 0),(6,.bp 6 0),(7,.int .i64 0),(33,.sl (lineRows d.add) false),(34,.int .i64 (lineRows d.add).length),(35,.int .i64 (j:Nat)),(9,.sl (cellRows r) false),(46,.sl (cellRows r) false),(47,.int .i64 (cellRows r).length),(48,.int .i64 (i:Nat))],[(6,[.rows 3 [[.int .i64 0,.str [],.nils]] none])],[6]⟩)
    r.length _ ⟨0,by omega,rfl,by omega,rfl⟩ ⟨[(6,6)],[],[],.mq (.ci 6 .nil)⟩ ?_
   rintro m st ⟨i,hi,hany,rfl,rfl⟩
   (refine gGo ?_;intros)
   refine boolRes_split (fun hb=>?_) (fun hb=>?_)<;>conv=>whnf
   ·have hil:i<r.length:=by omega
    have hgi:=cellRows_get hil
    have hni:(r.take (i+1)).any badB=((r.take i).any badB||badB r[i]):=by rw [List.take_succ_eq_append_getElem hil,List.any_append];simp
    have hra:badB r[i]=true→r.any badB=true:=fun h=>List.any_eq_true.2 ⟨_,List.getElem_mem hil,h⟩
    have spV:=validCell3_spec r[i]
    generalize r[i]=x at *
    (refine gGo ?_;intros)
    refine rowAt_of (by simpa using hgi) ?_
    conv=>whnf
    (refine gGo ?_;intros)
    cases hc:cellB x with
    | false =>
     rw [hc] at spV
     rw [hg1 (by rw [hgd,haf (by rw [hra (by unfold badB;rw [hc];rfl)];simp)];rfl)]
     (refine gPC (spV) ?_;conv=>whnf)
     (refine gGo ?_;intros)
     (refine gM ?_;conv=>whnf)
     exact retH rfl (.norm _) rfl rfl rfl trivial
    | true =>
     rw [hc] at spV
     (refine gPC (spV) ?_;conv=>whnf)
     (refine gGo ?_;intros)
     refine ⟨_,_,?_,⟨i+1,by omega,by rw [hni,hany];unfold badB;rw [hc];rfl,rfl,rfl⟩,⟨[(6,6)],[],[],.mq (.ci 6 .nil)⟩⟩
     omega
   ·have hie:i=r.length:=by omega
    rw [hie,List.take_length] at hany
    (refine gGo ?_;intros)
    refine ⟨_,_,?_,⟨j+1,by omega,by rw [hns,hall,hany,decide_eq_true (by omega)];rfl,rfl,rfl⟩,⟨[(6,6)],[],[],.mq (.ci 6 .nil)⟩⟩
    omega
 have hje:j=d.add.length:=by omega
 rw [hje,List.take_length] at hall
 rw [hall,Bool.true_and] at hgd
 (refine gGo ?_;intros)
 refine W.loopG (fun m st=>∃ j:Nat,j≤d.drop.length∧(d.drop.take j).any badB=false∧m=d.drop.length-j∧st=⟨[(1,.int .i64 key),(3,.ro t.row 0),(5,.ro d.row 0),(6,.bp 6 0),(7,.int .i64 0),(59,.sl (cellRows d.drop) false),(60,.int .i64 (cellRows d.drop).length),(61,.int .i64 (j:Nat))],[(6,[.rows 3 [[.int .i64 0,.str [],.nils]] none])],[6]⟩)
  d.drop.length _ ⟨0,by omega,rfl,by omega,rfl⟩ ⟨[(6,6)],[],[],.mq (.ci 6 .nil)⟩ ?_
 rintro m st ⟨j,hj,hany,rfl,rfl⟩
 (refine gGo ?_;intros)
 refine boolRes_split (fun hb=>?_) (fun hb=>?_)<;>conv=>whnf
 ·have hil:j<d.drop.length:=by omega
  have hgi:=cellRows_get hil
  have hni:(d.drop.take (j+1)).any badB=((d.drop.take j).any badB||badB d.drop[j]):=by rw [List.take_succ_eq_append_getElem hil,List.any_append];simp
  have hra:badB d.drop[j]=true→d.drop.any badB=true:=fun h=>List.any_eq_true.2 ⟨_,List.getElem_mem hil,h⟩
  have spV:=validCell3_spec d.drop[j]
  generalize d.drop[j]=x at *
  (refine gGo ?_;intros)
  refine rowAt_of (by simpa using hgi) ?_
  conv=>whnf
  (refine gGo ?_;intros)
  cases hc:cellB x with
  | false =>
   rw [hc] at spV
   rw [hg1 (by rw [hgd,hra (by unfold badB;rw [hc];rfl)];rfl)]
   (refine gPC (spV) ?_;conv=>whnf)
   (refine gGo ?_;intros)
   (refine gM ?_;conv=>whnf)
   exact retH rfl (.norm _) rfl rfl rfl trivial
  | true =>
   rw [hc] at spV
   (refine gPC (spV) ?_;conv=>whnf)
   (refine gGo ?_;intros)
   refine ⟨_,_,?_,⟨j+1,by omega,by rw [hni,hany];unfold badB;rw [hc];rfl,rfl,rfl⟩,⟨[(6,6)],[],[],.mq (.ci 6 .nil)⟩⟩
   omega
 have hje2:j=d.drop.length:=by omega
 rw [hje2,List.take_length] at hany
 rw [hany] at hgd
 have hgT:goodD t.cols.length d=true:=hgd
 rw [check37_one hv] at spC
 by_cases hck:checkM key [t]=0
 ·obtain ⟨k,rfl,hk,hkey⟩:=check_one hck
  rw [hck] at spC
  obtain ⟨nA,dA⟩:=(keyB_iff _).1 hkey
  have eA:=colK_get hk
  have lA:(colK t k).length=rowsN t:=by rw [eA];exact valid_cells hv _ (List.getElem_mem hk)
  have hrn:=valid_rows hv
  have f64:t.cols.length≤64:=by simp only [validB,headB,Bool.and_eq_true,decide_eq_true_eq] at hv;omega
  have spF:=fun s=>find37_spec t k s hk
  have hmay:mayM t k d=if clashD (textsOf (colK t k)) k d=true then 26 else if (rowsN t:Int)-d.drop.length+d.add.length > 4096 then 3 else 0:=by
   unfold mayM
   rw [if_pos ⟨hv,hgT⟩,if_pos hck,Int.toNat_natCast]
  have h26:clashD (textsOf (colK t k)) k d=true→applyM t k d=(Table.zero,26):=fun h=>by
   have hm:mayM t k d=26:=by rw [hmay,if_pos h]
   rw [hbad (by rw [hm];decide),hm]
  have hdn:dropK (textsOf (colK t k)) d.drop=none→clashD (textsOf (colK t k)) k d=true:=fun h=>by unfold clashD;rw [h]
  obtain ⟨N,hNn⟩:∃ N,N=rowsN t:=⟨_,rfl⟩
  rw [←hNn] at spR lA hrn
  (refine gGo ?_;intros)
  (refine gPC (spC) ?_;conv=>whnf)
  (refine gGo ?_;intros)
  (refine gPC (spR) ?_;conv=>whnf)
  (refine gGo ?_;intros)
  refine And.intro ⟨by omega,by omega,show (N:Int)*1≤140737488355328 by omega,by omega⟩ ?_
  rw [Int.toNat_natCast]
  conv=>whnf
  (refine gGo ?_;intros)
  refine W.loopG (fun m st=>∃ j:Nat,j≤d.drop.length∧dropK (textsOf (colK t k)) (d.drop.take j)=some (leftL (textsOf (colK t k)) (textsOf (d.drop.take j)))∧m=d.drop.length-j∧st=⟨[(1,.int .i64 (k:Nat)),(3,.ro t.row 0),(5,.ro d.row 0),(6,.bp 6 0),(7,.int .i64 0),(15,.osl 60 0 0 N N),(81,.sl (cellRows d.drop) false),(82,.int .i64 (cellRows d.drop).length),(83,.int .i64 (j:Nat))],[(6,[.rows 3 [[.int .i64 0,.str [],.nils]] none]),(60,[.rows 1 (boolRows (goneL (colK t k) (textsOf (d.drop.take j)))) (some [])])],[6,60]⟩)
   d.drop.length _ ⟨0,by omega,by rw [List.take_zero];show some _=some (leftL _ []);rw [leftL_nil],by omega,rfl⟩ ⟨[(6,6),(79,60)],[],[],LeG.mq (.ci 6 (.cons 79 rfl rfl (.refl _) (by rw [List.take_zero,show textsOf ([]:List Cell)=[] from rfl,gone_zero,lA];rfl) .nil))⟩ ?_
  rintro m st ⟨j,hj,hdk,rfl,rfl⟩
  have hgl:=boolRows_len (goneL (colK t k) (textsOf (d.drop.take j)))
  rw [goneL_len] at hgl
  (refine gGo ?_;intros)
  refine boolRes_split (fun hb=>?_) (fun hb=>?_)<;>conv=>whnf
  ·have hlt:j<d.drop.length:=by omega
   have hg:=cellRows_get hlt
   have ht:textsOf (d.drop.take (j+1))=textsOf (d.drop.take j)++[d.drop[j].text]:=by
    rw [List.take_succ_eq_append_getElem hlt];unfold textsOf;rw [List.map_append];rfl
   have hno:=dropK_none hlt hdk
   have hst:=dropK_step dA hlt hdk
   generalize d.drop[j]=x at *
   obtain ⟨nl,tx⟩:=x
   have sF:=spF tx
   unfold find37M at sF
   (refine gGo ?_;intros)
   refine rowAt_of (by simpa using hg) ?_
   conv=>whnf
   (refine gGo ?_;intros)
   cases hix:ixS tx (textsOf (colK t k)) with
   | none =>
    rw [hix] at sF
    dsimp only at sF
    rw [h26 (hdn (hno (.inr (.inl (ixS_none.1 hix)))))]
    (refine gPC (sF) ?_;conv=>whnf)
    cases nl with
    | true =>
     (refine gGo ?_;intros)
     (refine gM ?_;conv=>whnf)
     exact retH rfl (.norm _) rfl rfl rfl trivial
    | false =>
     (refine gGo ?_;intros)
     (refine gM ?_;conv=>whnf)
     exact retH rfl (.norm _) rfl rfl rfl trivial
   | some i =>
    obtain ⟨gi1,gi2⟩:=List.getElem?_eq_some_iff.1 (ixS_some hix)
    have hil:i<(colK t k).length:=by simpa [textsOf] using gi1
    have hxt:(colK t k)[i].text=tx:=by simpa [textsOf] using gi2
    have hgg:=gone_get (T:=textsOf (d.drop.take j)) hil
    have hgs:=gone_set dA (T:=textsOf (d.drop.take j)) hil
    rw [hxt] at hgg hgs
    rw [hix] at sF
    dsimp only at sF
    (refine gPC (sF) ?_;conv=>whnf)
    cases nl with
    | true =>
     rw [h26 (hdn (hno (.inl rfl)))]
     (refine gGo ?_;intros)
     (refine gM ?_;conv=>whnf)
     exact retH rfl (.norm _) rfl rfl rfl trivial
    | false =>
     (refine gGo ?_;intros)
     refine rowAt_of (by simpa using hgg) ?_
     conv=>whnf
     by_cases hm:tx∈textsOf (d.drop.take j)
     ·rw [h26 (hdn (hno (.inr (.inr hm))))]
      rw [decide_eq_true hm]
      (refine gGo ?_;intros)
      (refine gM ?_;conv=>whnf)
      exact retH rfl (.norm _) rfl rfl rfl trivial
     ·rw [decide_eq_false hm]
      (refine gGo ?_;intros)
      refine rowAt_of (by simpa using hgg) ?_
      conv=>whnf
      (refine gGo ?_;intros)
      refine ⟨_,_,?_,⟨j+1,by omega,hst rfl (hxt ▸ List.mem_map.2 ⟨_,List.getElem_mem hil,rfl⟩) hm,rfl,rfl⟩,[(6,6),(60,60)],[],[],LeG.mq (.ci 6 (.cons 60 rfl rfl (.refl _) (by rw [ht,←hgs,Nat.zero_add,Int.toNat_natCast];rfl) .nil))⟩
      omega
  have hje3:j=d.drop.length:=by omega
  rw [hje3,List.take_length] at hdk
  rw [hje3,List.take_length]
  have hgl2:=boolRows_len (goneL (colK t k) (textsOf d.drop))
  rw [goneL_len] at hgl2
  clear hdl hal
  have hdl:=cellRows_len d.drop
  have hal:=lineRows_len d.add
  (refine gGo ?_;intros)
  refine W.ownCell 19 0 2 901 2 rfl rfl rfl rfl rfl ?_
  refine W.ref (Ref.reserve 902 (t.cols.length+2) 2 rfl) ?_
  refine W.ref (Ref.reks 901 (rows1:=colWs (colsJ t k d 0 0)) [902] rfl rfl (fun i r q v hi hq=>colWs_sites hi hq) (fun q hq=>by simp at hq;subst hq;rfl)) ?_
  rw [←colF_none]
  refine W.loopG (fun m st=>∃ i:Nat,i≤t.cols.length∧m=t.cols.length-i∧st=⟨[(1,.int .i64 (k:Nat)),(3,.ro t.row 0),(5,.ro d.row 0),(6,.bp 6 0),(7,.int .i64 0),(15,.osl 60 0 0 N N),(19,.bp 19 0),(115,.sl (colRows t.cols) false),(116,.int .i64 (colRows t.cols).length),(117,.int .i64 (i:Nat))],[(6,[.rows 3 [[.int .i64 0,.str [],.nils]] none]),(60,[.rows 1 (boolRows (goneL (colK t k) (textsOf d.drop))) (some [])]),(19,[.rows 3 [[.int .i64 t.id,.str t.name,.osl 901 0 0 (colWs (colsJ t k d 0 i)).length (colWs (colsJ t k d 0 i)).length]] none]),(901,[.rows 2 (colWs (colsJ t k d 0 i)) (some [902])]),(902,famL (t.cols.length+2) (colF (colsJ t k d 0 i)))],[6,60,19,901,902]⟩)
   t.cols.length _ ⟨0,by omega,by omega,rfl⟩ ⟨[(6,6),(60,60),(19,19),(901,901),(902,902)],[],[],LeG.mq (.ci 6 (.ci 60 (.ci 19 (.ci 901 (.fam 902 rfl rfl (colF_fam _ _) .nil)))))⟩ ?_
  rintro m st ⟨i,hi,rfl,rfl⟩
  have hcl:=colsJ_len t k d 0 i
  have hwl:=colWs_len (colsJ t k d 0 i)
  (refine gGo ?_;intros)
  refine boolRes_split (fun hb=>?_) (fun hb=>?_)<;>conv=>whnf
  ·have hil:i<t.cols.length:=by omega
   have hg:=colRows_get hil
   have hcc:t.cols.getD i ⟨[],[]⟩=t.cols[i]:=by simp [hil]
   have hcr:t.cols[i].cells.length=N:=by rw [hNn];exact valid_cells hv _ (List.getElem_mem hil)
   have hsu:=colsJ_succ t k d 0 i
   have hcJ:colJ t k d 0 i=⟨t.cols[i].name,keptA t k d t.cols[i] N⟩:=by unfold colJ;rw [hcc,hNn];simp [newA]
   rw [hcJ] at hsu
   generalize t.cols[i]=c at *
   generalize colsJ t k d 0 i=C at *
   have hccl:=cellRows_len c.cells
   (refine gGo ?_;intros)
   refine rowAt_of (by simpa using hg) ?_
   conv=>whnf
   (refine gGo ?_;intros)
   refine W.ref (Ref.recell 22 [[.str c.name,.osl 902 i 0 0 0]] (some [902]) rfl rfl (col_recell (n:=t.cols.length) hcl (by omega) rfl) (fun l hl q hq=>by cases hl;simp at hq;subst hq;rfl)) ?_
   refine W.loopG (fun m st=>∃ r:Nat,r≤c.cells.length∧m=c.cells.length-r∧st=⟨[(1,.int .i64 (k:Nat)),(3,.ro t.row 0),(5,.ro d.row 0),(6,.bp 6 0),(7,.int .i64 0),(15,.osl 60 0 0 N N),(19,.bp 19 0),(115,.sl (colRows t.cols) false),(116,.int .i64 (colRows t.cols).length),(117,.int .i64 (i:Nat)),(21,.ro c.row 0),(22,.bp 22 0),(125,.sl (cellRows c.cells) false),(126,.int .i64 (cellRows c.cells).length),(127,.int .i64 (r:Nat))],[(6,[.rows 3 [[.int .i64 0,.str [],.nils]] none]),(60,[.rows 1 (boolRows (goneL (colK t k) (textsOf d.drop))) (some [])]),(19,[.rows 3 [[.int .i64 t.id,.str t.name,.osl 901 0 0 (colWs (C)).length (colWs (C)).length]] none]),(901,[.rows 2 (colWs (C)) (some [902])]),(22,[.rows 2 [[.str c.name,.osl 902 i 0 ((keptA t k d c r).length) ((keptA t k d c r).length)]] (some [902])]),(902,famL (t.cols.length+2) (colF (C++[⟨c.name,keptA t k d c r⟩])))],[6,60,19,901,902,22]⟩)
    c.cells.length _ ⟨0,by omega,by omega,rfl⟩ ⟨[(6,6),(60,60),(19,19),(901,901),(902,902),(22,22)],[21],[],LeG.mk' rfl rfl rfl (by repeat' (first | exact trivial | exact ⟨_,.refl _,rfl⟩ | exact ⟨_,.bp 21 0 2 c.row none rfl rfl (by simp [Column.row]) (.inr rfl),rfl⟩ | apply And.intro)) (.ci 6 (.ci 60 (.ci 19 (.ci 901 (.ci 22 (.fam 902 rfl (congrArg (famL _) (colF_nil C c.name)) (colF_fam _ _) .nil)))))) rfl rfl (by rw [hK];rfl)⟩ ?_
   rintro m st ⟨r,hr,rfl,rfl⟩
   (refine gGo ?_;intros)
   refine boolRes_split (fun hb=>?_) (fun hb=>?_)<;>conv=>whnf
   ·have hrl:r<c.cells.length:=by omega
    have hgr:=cellRows_get hrl
    have hrk:r<(colK t k).length:=by omega
    have hgg:=gone_get (T:=textsOf d.drop) hrk
    have hsn:=keptA_snoc t k d c r
    have hkb:keepB t k d r=decide ((colK t k)[r].text∉textsOf d.drop):=by unfold keepB;rw [cellI_in hrk]
    have hkl:=keptA_len t k d c r
    rw [cellI_in hrl] at hsn
    rw [hkb] at hsn
    generalize c.cells[r]=x at *
    generalize (colK t k)[r].text=tx at *
    (refine gGo ?_;intros)
    refine rowAt_of (by simpa using hgr) ?_
    conv=>whnf
    (refine gGo ?_;intros)
    refine rowAt_of (by simpa using hgg) ?_
    conv=>whnf
    by_cases hm:tx∈textsOf d.drop
    ·rw [decide_eq_true hm]
     rw [if_neg (by simp [hm])] at hsn
     (refine gGo ?_;intros)
     refine ⟨_,_,?_,⟨r+1,by omega,rfl,rfl⟩,[(6,6),(60,60),(19,19),(901,901),(902,902),(22,22)],[],[],LeG.mq (.ci 6 (.ci 60 (.ci 19 (.ci 901 (.cons 22 rfl rfl (.refl _) (by rw [hsn];rfl) (.fam 902 rfl (by rw [hsn];rfl) (colF_fam _ _) .nil))))))⟩
     omega
    ·rw [decide_eq_false hm]
     rw [if_pos (by simp [hm])] at hsn
     have hfk:(famL (t.cols.length+2) (colF (C++[⟨c.name,keptA t k d c r⟩])))[i]?=some (.rows 2 (cellRows (keptA t k d c r)) (some [])):=by
      rw [famL_get (by omega)];simp [colF,hcl]
     generalize hK9:keptA t k d c r=X at *
     have hXl:=cellRows_len X
     (refine gGo ?_;intros)
     generalize hO:oslRows _ 902 i=O
     have hO2:O=some (2,cellRows X,some []):=by rw [←hO];exact oslRows_of hfk
     subst hO2
     clear hO
     conv=>whnf
     refine ⟨⟨rowsSz_cons rfl rowsSz_nil,by omega⟩,fitsN (n:=X.length+1) (b:=24) (by omega) (by omega),.inl ⟨rfl,rfl,?_⟩⟩
     conv=>whnf
     split
     ·rename_i heq
      have h9:=congrArg List.length heq
      change (famL (t.cols.length+2) _).length=1 at h9
      rw [famL_len] at h9
      omega
     rename_i i l0 i0 hnp
     clear hnp
     conv=>whnf
     (refine gGs ?_;intros)
     refine W.ref (Ref.reks 22 (rows1:=[[.str c.name,.osl 902 i 0 (X.length+1) (X.length+1)]]) [902] rfl rfl (fun j r q v hj hq=>?_) (fun q hq=>?_)) ?_
     ·match j,hj with
      | 0,hj =>
       cases hj
       match q,hq with
       | 0,hq=>cases hq;intro s hs;cases hs
       | 1,hq=>cases hq;intro s hs;simpa [V.sites] using hs
       | q+2,hq=>simp at hq
      | j+1,hj=>simp at hj
     ·simp at hq;subst hq;rfl
     (refine gGo ?_;intros)
     refine ⟨_,_,?_,⟨r+1,by omega,rfl,rfl⟩,[(6,6),(60,60),(19,19),(901,901),(902,902),(22,22)],[],[],LeG.mq (.ci 6 (.ci 60 (.ci 19 (.ci 901 (.cons 22 rfl rfl (.refl _) (by rw [hsn,List.length_append];rfl) (.fam 902 rfl ?_ (colF_fam _ _) .nil))))))⟩
     ·omega
     ·rw [hsn]
      show _=(famL _ _).set _ _
      rw [famL_set]
      refine famL_congr fun q _=>?_
      have hs2:=colF_snoc C ⟨c.name,X⟩ x q
      rw [hs2]
      by_cases hq:q=C.length
      ·rw [if_pos hq,if_pos (by omega)]
       unfold cellRows
       rw [List.map_append]
       rfl
      ·rw [if_neg hq,if_neg (by omega)]
   ·have hre:r=N:=by omega
    rw [hre]
    have hwl2:(colWs (C++[⟨c.name,keptA t k d c N⟩])).length=(colWs C).length+1:=by rw [colWs_len,colWs_len,List.length_append];rfl
    (refine gGl ?_;intros)
    refine Or.inl ?_
    conv=>whnf
    (refine gGo ?_;intros)
    refine ⟨⟨rfl,rfl⟩,fitsN (n:=(colWs C).length+1) (b:=40) (by omega) (by omega),.inl ⟨rfl,rfl,?_⟩⟩
    conv=>whnf
    (refine gGs ?_;intros)
    refine W.ref (Ref.reks 901 (rows1:=colWs (C++[⟨c.name,keptA t k d c N⟩])) [902] rfl (by rw [colWs_snoc,hcl];rfl) (fun j r q v hj hq=>colWs_sites hj hq) (fun q hq=>by simp at hq;subst hq;rfl)) ?_
    (refine gGo ?_;intros)
    refine ⟨_,_,?_,⟨i+1,by omega,rfl,rfl⟩,[(6,6),(60,60),(19,19),(901,901),(902,902)],[],[],LeG.mq (.ci 6 (.ci 60 (.cons 19 rfl rfl (.refl _) (by rw [hsu,hwl2];rfl) (.cons 901 rfl rfl (.refl _) (by rw [hsu];rfl) (.fam 902 rfl (by rw [hsu];rfl) (colF_fam _ _) .nil)))))⟩
    omega
  have hie:i=t.cols.length:=by omega
  rw [hie]
  obtain ⟨L1,hL1⟩:∃ L1,L1=leftL (textsOf (colK t k)) (textsOf d.drop):=⟨_,rfl⟩
  have hclD:clashD (textsOf (colK t k)) k d=(addK k L1 d.add).isNone:=by unfold clashD;rw [hdk,←hL1]
  have hadn:addK k L1 d.add=none→clashD (textsOf (colK t k)) k d=true:=fun h=>by rw [hclD,h];rfl
  have hky:=fun j=>colJ_key (d:=d) hv hk j
  have hcrw:=fun j (hj:j≤d.add.length) i=>colJ_rows hv hk hj i
  rw [←hL1] at hky hcrw
  have hL1n:L1.length+d.drop.length=N:=by
   have:=dropK_len hdk
   rw [←hL1] at this
   simp only [textsOf,List.length_map] at this
   rw [←lA];omega
  have hgr:=fun r hr=>good_row hgT (r:=r) hr
  have happ:=colsJ_all (k:=k) (d:=d) hv
  obtain ⟨n,hn⟩:∃ n,n=t.cols.length:=⟨_,rfl⟩
  have hkn:k<n:=by omega
  have hw0:(colWs (colsJ t k d 0 n)).length=n:=by rw [colWs_len,colsJ_len]
  rw [←hn] at hgr happ f64 ⊢
  rw [hw0]
  clear hcl hwl hgl2
  (refine gGo ?_;intros)
  refine W.loopG (fun m st=>∃ j:Nat,j≤d.add.length∧addK k L1 (d.add.take j)=some (L1++(d.add.take j).map (keyAt k))∧m=d.add.length-j∧st=⟨[(1,.int .i64 (k:Nat)),(6,.bp 6 0),(7,.int .i64 0),(19,.bp 19 0),(152,.sl (lineRows d.add) false),(153,.int .i64 (lineRows d.add).length),(154,.int .i64 (j:Nat))],[(6,[.rows 3 [[.int .i64 0,.str [],.nils]] none]),(19,[.rows 3 [[.int .i64 t.id,.str t.name,.osl 901 0 0 n n]] none]),(901,[.rows 2 (colWs (colsJ t k d j n)) (some [902])]),(902,famL (n+2) (colF (colsJ t k d j n)))],[6,19,901,902]⟩)
   d.add.length _ ⟨0,by omega,by simp [addK],by omega,rfl⟩ ⟨[(6,6),(19,19),(901,901),(902,902)],[],[],LeG.mq (.ci 6 (.ci 19 (.cons 901 rfl rfl (.refl _) (rfl) (.fam 902 rfl (rfl) (colF_fam _ _) .nil))))⟩ ?_
  rintro m st ⟨j,hj,hak,rfl,rfl⟩
  (refine gGo ?_;intros)
  refine boolRes_split (fun hb=>?_) (fun hb=>?_)<;>conv=>whnf
  ·have hlt:j<d.add.length:=by omega
   have hgx:=lineRows_get hlt
   have hrn:=hgr _ (List.getElem_mem hlt)
   have hno:=addK_none hlt hak
   have hst:=addK_step hlt hak
   have hpz:=pcJ_zero t k d n j
   have hpa:=pcJ_all t k d n j
   have hps:=fun i (h:i<n)=>pcJ_succ (t:=t) (k:=k) hlt h
   have hpg:=fun i (h:i<n)=>pcJ_get (t:=t) (k:=k) (d:=d) (n:=n) (j:=j) h
   have hpl:=fun i=>pcJ_len t k d n j i
   generalize d.add[j]=r at *
   have hkr:k<r.length:=by omega
   have hgk:=line_cell hkr
   have hrl:=cellRows_len r
   generalize hx:cellI r k=x at *
   obtain ⟨nl,tx⟩:=x
   have hCl:=colsJ_len t k d j n
   have hkC:k<(colsJ t k d j n).length:=by omega
   have hCk:(colsJ t k d j n)[k]=colJ t k d j k:=by simp [colsJ]
   have sF:=find37F_spec t.id t.name n (colsJ t k d j n) hCl k tx hkC
   have hwC:(colWs (colsJ t k d j n)).length=n:=by rw [colWs_len,hCl]
   rw [hCk,hky j,hwC] at sF
   unfold find37M at sF
   (refine gGo ?_;intros)
   refine rowAt_of (by simpa using hgx) ?_
   conv=>whnf
   (refine gGo ?_;intros)
   refine rowAt_of (by simpa using hgk) ?_
   conv=>whnf
   cases nl with
   | true =>
    rw [h26 (hadn (hno (.inl rfl)))]
    (refine gGo ?_;intros)
    (refine gM ?_;conv=>whnf)
    exact retH rfl (.norm _) rfl rfl rfl trivial
   | false =>
    cases hix:ixS tx (L1++(d.add.take j).map (keyAt k)) with
    | some q =>
     rw [hix] at sF
     dsimp only at sF
     rw [h26 (hadn (hno (.inr (List.mem_of_getElem? (ixS_some hix)))))]
     (refine gGo ?_;intros)
     refine rowAt_of (by simpa using hgk) ?_
     conv=>whnf
     (refine gGo ?_;intros)
     (refine gCF (sF) (colH_within n _) (colH_ne n _) ?_;conv=>whnf)
     (refine gGo ?_;intros)
     (refine gM ?_;conv=>whnf)
     exact retH rfl (.norm _) rfl rfl rfl trivial
    | none =>
     rw [hix] at sF
     dsimp only at sF
     have hst2:=hst rfl (ixS_none.1 hix)
     (refine gGo ?_;intros)
     refine rowAt_of (by simpa using hgk) ?_
     conv=>whnf
     (refine gGo ?_;intros)
     (refine gCF (sF) (colH_within n _) (colH_ne n _) ?_;conv=>whnf)
     (refine gGo ?_;intros)
     refine W.loopG (fun m st=>∃ i:Nat,i≤n∧m=n-i∧st=⟨[(1,.int .i64 (k:Nat)),(6,.bp 6 0),(7,.int .i64 0),(19,.bp 19 0),(152,.sl (lineRows d.add) false),(153,.int .i64 (lineRows d.add).length),(154,.int .i64 (j:Nat)),(26,.sl (cellRows r) false),(177,.int .i64 (n:Nat)),(178,.int .i64 (i:Nat))],[(6,[.rows 3 [[.int .i64 0,.str [],.nils]] none]),(19,[.rows 3 [[.int .i64 t.id,.str t.name,.osl 901 0 0 n n]] none]),(901,[.rows 2 (colWs (pcJ t k d n j i)) (some [902])]),(902,famL (n+2) (colF (pcJ t k d n j i)))],[6,19,901,902]⟩)
      n _ ⟨0,by omega,by omega,rfl⟩ ⟨[(6,6),(19,19),(901,901),(902,902)],[],[],LeG.mq (.ci 6 (.ci 19 (.cons 901 rfl rfl (.refl _) (by rw [hpz];rfl) (.fam 902 rfl (by rw [hpz];rfl) (colF_fam _ _) .nil))))⟩ ?_
     rintro m st ⟨i,hi,rfl,rfl⟩
     (refine gGo ?_;intros)
     refine boolRes_split (fun hb=>?_) (fun hb=>?_)<;>conv=>whnf
     ·have hil:i<n:=by omega
      have hgi:=line_cell (r:=r) (k:=i) (by omega)
      have hsn:=hps i hil
      have hCl:=hpl i
      have hcr:∀ hh:i<(pcJ t k d n j i).length,((pcJ t k d n j i)[i]'hh).cells.length=L1.length+j:=fun hh=>by rw [hpg i hil];exact hcrw j hj i
      generalize pcJ t k d n j i=C at *
      generalize cellI r i=y at *
      have hal:i<C.length:=by omega
      have hcr:=hcr hal
      have hgw:=colWs_get hal
      have hset:=fun n' (hn':n'=(C[i]).cells.length+1)=>addC_ws (c:=y) hal hn'
      have hff:=addC_f (c:=y) hal
      have hfk:(famL (n+2) (colF C))[i]?=some (.rows 2 (cellRows C[i].cells) (some [])):=by rw [famL_get (by omega),colF_get hal]
      have hckl:=cellRows_len C[i].cells
      have hwl:=colWs_len C
      unfold colW at hgw
      generalize C[i]=ck at *
      (refine gGo ?_;intros)
      refine rowAt_of (by simpa using hgw) ?_
      conv=>whnf
      (refine gGo ?_;intros)
      refine rowAt_of (by simpa using hgi) ?_
      conv=>whnf
      (refine gGo ?_;intros)
      generalize hO:oslRows _ 902 i=O
      have hO2:O=some (2,cellRows ck.cells,some []):=by rw [←hO];exact oslRows_of hfk
      subst hO2
      clear hO
      conv=>whnf
      refine ⟨⟨rowsSz_cons rfl rowsSz_nil,by omega⟩,fitsN (n:=ck.cells.length+1) (b:=24) (by omega) (by omega),.inl ⟨rfl,rfl,?_⟩⟩
      conv=>whnf
      split
      ·rename_i heq
       have h9:=congrArg List.length heq
       change (famL (n+2) (colF C)).length=1 at h9
       rw [famL_len] at h9
       omega
      rename_i i l0 i0 hnp
      clear hnp
      conv=>whnf
      (refine gGo ?_;intros)
      refine rowAt_of (by simpa using hgw) ?_
      conv=>whnf
      (refine gGs ?_;intros)
      refine W.ref (Ref.reks 901 (rows1:=colWs (addC C i y)) [902] rfl (by rw [←hset _ rfl,show (0+((i:Nat):Int).toNat)=i by omega];rfl) (fun i r q v hi hq=>colWs_sites hi hq) (fun q hq=>by simp at hq;subst hq;rfl)) ?_
      (refine gGo ?_;intros)
      refine ⟨_,_,?_,⟨i+1,by omega,rfl,rfl⟩,[(6,6),(19,19),(901,901),(902,902)],[],[],LeG.mq (.ci 6 (.ci 19 (.cons 901 rfl rfl (.refl _) (by rw [hsn];rfl) (.fam 902 rfl (?_) (colF_fam _ _) .nil))))⟩
      ·omega
      ·rw [hsn]
       show _=(famL _ _).set _ _
       rw [famL_set]
       refine famL_congr fun q _=>?_
       rw [hff]
       by_cases hq:q=i
       ·rw [if_pos hq,if_pos hq]
        unfold cellRows
        rw [List.map_append]
        rfl
       ·rw [if_neg hq,if_neg hq]
     ·have hie:i=n:=by omega
      rw [hie,hpa]
      (refine gGo ?_;intros)
      refine ⟨_,_,?_,⟨j+1,by omega,hst2,rfl,rfl⟩,[(6,6),(19,19),(901,901),(902,902)],[],[],LeG.mq (.ci 6 (.ci 19 (.cons 901 rfl rfl (.refl _) (rfl) (.fam 902 rfl (rfl) (colF_fam _ _) .nil))))⟩
      omega
  have hje4:j=d.add.length:=by omega
  rw [hje4,List.take_length] at hak
  rw [hje4]
  have hcF:clashD (textsOf (colK t k)) k d=false:=by rw [hclD,hak];rfl
  have sR:=rows3_spec ⟨t.id,t.name,colsJ t k d d.add.length n⟩
  have hrw:=apply_rows (d:=d) hv hk
  rw [←happ,←hL1] at hrw
  rw [hrw] at sR
  rw [hmay,if_neg (by rw [hcF];decide)] at hbad
  refine gA ?_
  refine gD rfl ?_
  refine gG ?_
  conv=>whnf
  have hCl:=colsJ_len t k d d.add.length n
  have happ2:applyD t k d=⟨t.id,t.name,colsJ t k d d.add.length n⟩:=happ.symm
  generalize colsJ t k d d.add.length n=C at *
  have hwl:=colWs_len C
  have hcl:=colRows_len C
  refine W.leG (mp:=[(6,6),(19,19),(901,901)]) (bo:=[902]) (st':=⟨[(6,.bp 6 0),(7,.int .i64 0),(19,.bp 19 0)],[(6,[.rows 3 [[.int .i64 0,.str [],.nils]] none]),(19,[.rows 3 [[.int .i64 t.id,.str t.name,.osl 901 0 0 n n]] none]),(901,[.rows 2 (colRows C) (some [])])],[6,19,901]⟩)
   (LeG.mq (.ci 6 (.ci 19 (.cons 901 (b1:=.rows 2 (colRows C) (some [])) rfl rfl (colWs_lent rfl (n:=n+2) (by omega) rfl) rfl .nil)))) ?_
  refine W.leG (mp:=[(6,6),(19,19)]) (bo:=[901]) (st':=⟨[(6,.bp 6 0),(7,.int .i64 0),(19,.bp 19 0)],[(6,[.rows 3 [[.int .i64 0,.str [],.nils]] none]),(19,[.rows 3 [[.int .i64 t.id,.str t.name,.sl (colRows C) false]] none])],[6,19]⟩)
   (LeG.mq (.ci 6 (.cons 19 (b1:=.rows 3 [[.int .i64 t.id,.str t.name,.sl (colRows C) false]] none) rfl rfl (.rows _ _ _ (by repeat' (first | exact trivial | exact ⟨Lent.refl _,rfl⟩ | exact ⟨Lent.whole rfl rfl (by omega) rfl (.inl rfl),rfl⟩ | apply And.intro))) rfl .nil))) ?_
  by_cases h4:L1.length+d.add.length≤4096
  ·have hm:mayM t k d=0:=by rw [hmay,if_neg (by rw [hcF];decide),if_neg (by omega)]
   have hap:applyM t k d=(⟨t.id,t.name,C⟩,0):=by unfold applyM;rw [if_pos hm,Int.toNat_natCast,happ2]
   rw [hap]
   (refine gGo ?_;intros)
   (refine gPC (sR) ?_;conv=>whnf)
   (refine gGo ?_;intros)
   (refine gM ?_;conv=>whnf)
   exact retH rfl (.norm _) rfl rfl rfl trivial
  ·rw [if_pos (by omega)] at hbad
   rw [hbad (by decide)]
   (refine gGo ?_;intros)
   (refine gPC (sR) ?_;conv=>whnf)
   (refine gGo ?_;intros)
   (refine gM ?_;conv=>whnf)
   exact retH rfl (.norm _) rfl rfl rfl trivial
 ·have hm:mayM t key d=checkM key [t]:=by unfold mayM;rw [if_pos ⟨hv,hgT⟩,if_neg hck]
  rw [hbad (by rw [hm];exact hck),hm]
  generalize checkM key [t]=e at *
  (refine gGo ?_;intros)
  (refine gPC (spC) ?_;conv=>whnf)
  (refine gGo ?_;intros)
  (refine gM ?_;conv=>whnf)
  exact retH rfl (.norm _) rfl rfl rfl trivial
theorem cells_eq {N:NB}{o:Oper}{h:Nat→List Blk}{ρ:Operand→V}{t':Nat}{x y:Operand}(hop:o.op=.binOp .eql 40 x y t') (c d:Cell) (hx:ρ x=.agg c.row) (hy:ρ y=.agg d.row) (hd:dstOK N o.dst=true):GoodW Tryd.prog N o ρ h (.bool (decide (c=d))) [] []:=by
 have h1:=aggBS_good (P:=Tryd.prog) (N:=N) (h:=h) (ρ:=ρ) (op:=.eql) hop (.inl rfl) Tryd.underlying40 (by kernel_rfl) (by kernel_rfl) (by kernel_rfl) (by kernel_rfl) rfl rfl Tryd.underlying4 Tryd.underlying9 (a:=c.text) (b:=d.text) (n:=c.null) (m:=d.null) hx hy
 have e:decide (c=d)=decide (c.null=d.null∧c.text=d.text):=by
  cases c;cases d;simp
 rw [e]
 exact h1.toW hd
def dropF (b:Table) (k:Nat) (r:Nat) (l:List (List Cell)):List Cell:=(l.filter fun x=>decide (cellI x k=cellI (colK b k) r)).map fun x=>cellI x k
def addF (t:Table) (k:Nat) (r:Nat) (l:List Cell):List (List Cell):=(l.filter fun c=>decide (c=cellI (colK t k) r)).map fun _=>rowM t r
theorem dropF_len (b:Table) (k r:Nat) (l:List (List Cell)):(dropF b k r l).length≤l.length:=by unfold dropF;rw [List.length_map];exact List.length_filter_le _ _
theorem addF_len (t:Table) (k r:Nat) (l:List Cell):(addF t k r l).length≤l.length:=by unfold addF;rw [List.length_map];exact List.length_filter_le _ _
theorem dropF_snoc {b:Table}{k r:Nat}{l:List (List Cell)}{i:Nat}(h:i<l.length):dropF b k r (l.take (i+1))=if cellI l[i] k=cellI (colK b k) r then dropF b k r (l.take i)++[cellI l[i] k] else dropF b k r (l.take i):=by
 unfold dropF
 rw [List.take_succ_eq_append_getElem h,List.filter_append,List.map_append,List.filter_cons]
 by_cases e:cellI l[i] k=cellI (colK b k) r<;>simp [e]
theorem addF_snoc {t:Table}{k r:Nat}{l:List Cell}{i:Nat}(h:i<l.length):addF t k r (l.take (i+1))=if l[i]=cellI (colK t k) r then addF t k r (l.take i)++[rowM t r] else addF t k r (l.take i):=by
 unfold addF
 rw [List.take_succ_eq_append_getElem h,List.filter_append,List.map_append,List.filter_cons]
 by_cases e:l[i]=cellI (colK t k) r<;>simp [e]
theorem flat_len {α β:Type}{f:α→List β}{M:Nat}(h:∀ x,(f x).length≤M):∀ l:List α,(l.flatMap f).length≤l.length*M
 | []=>by simp
 | x::l=>by
  rw [List.flatMap_cons,List.length_append,List.length_cons,Nat.add_mul,Nat.one_mul]
  have h1:=h x
  have h2:=flat_len h l
  omega
theorem turnDrop_snoc {b:Table}{k:Nat}{d:Delta}{o:List Nat}{j:Nat}(h:j<o.length):turnDrop b k d (o.take (j+1))=turnDrop b k d (o.take j)++dropF b k o[j] d.add:=by
 unfold turnDrop
 rw [List.take_succ_eq_append_getElem h,List.flatMap_append]
 simp [dropF]
theorem turnAdd_snoc {t:Table}{k:Nat}{d:Delta}{o:List Nat}{j:Nat}(h:j<o.length):turnAdd t k d (o.take (j+1))=turnAdd t k d (o.take j)++addF t k o[j] d.drop:=by
 unfold turnAdd
 rw [List.take_succ_eq_append_getElem h,List.flatMap_append]
 simp [addF]
theorem turnDrop_len (b:Table) (k:Nat) (d:Delta) (o:List Nat):(turnDrop b k d o).length≤o.length*d.add.length:=flat_len (fun r=>dropF_len b k r d.add) o
theorem turnAdd_len (t:Table) (k:Nat) (d:Delta) (o:List Nat):(turnAdd t k d o).length≤o.length*d.drop.length:=flat_len (fun r=>addF_len t k r d.drop) o
set_option maxHeartbeats 32000000 in
theorem turn37_spec (t:Table) (key:Int) (d:Delta) (hdd:d.drop.length≤100000) (hda:d.add.length≤100000):Spec Tryd.prog 14 [.agg t.row,.int .i64 key,.agg d.row] [] (.tup [.agg (turnM t key d).1.row,.int .i64 (turnM t key d).2]) []:=by
 have spA:=apply37_spec t key d (by omega) (by omega)
 have hdl:=cellRows_len d.drop
 have hal:=lineRows_len d.add
 by_cases hm:mayM t key d=0
 ·obtain ⟨hv,hg,hck,hcl,hsz⟩:=may_ok hm
  obtain ⟨k,rfl,hk,hkey⟩:=check_one hck
  simp only [Int.toNat_natCast] at hcl
  have hof:turnM t k d=(turnD t k d,0):=by unfold turnM;rw [if_pos hm];simp
  have hap:applyM t k d=(applyD t k d,0):=by unfold applyM;rw [if_pos hm];simp
  rw [hof]
  rw [hap] at spA
  have eD:=turn_drop hv hg hk hkey hcl hsz
  have eU:=turn_add hv hk hkey hcl
  have hvB:=apply_valid hv hg hk hkey hcl hsz
  have hkB:k<(applyD t k d).cols.length:=by rw [apply_cols];exact hk
  have sp1:=order37_spec (applyD t k d) k hvB hkB
  have sp2:=order37_spec t k hv hk
  have hpB:∀ i∈ordM (applyD t k d) k,i<rowsN (applyD t k d):=fun i hi=>ordM_lt hi
  have hpA:∀ i∈ordM t k,i<rowsN t:=fun i hi=>ordM_lt hi
  have hoB:=ordM_len (applyD t k d) k
  have hoA:=ordM_len t k
  have hrB:=valid_rows hvB
  have hrA:=valid_rows hv
  have f64:t.cols.length≤4294967295:=by simp only [validB,headB,Bool.and_eq_true,decide_eq_true_eq] at hv;omega
  have rowA:∀ i,i<rowsN t→Spec Tryd.prog 23 [.agg t.row,.int .i64 (i:Nat)] [] (.sl (cellRows (rowM t i)) false) []:=fun i hi=>row37_spec t i (fun c hc=>by rw [valid_cells hv c hc];exact hi) f64
  have eB:=colK_get hkB
  have eA:=colK_get hk
  have lB:((applyD t k d).cols[k]).cells.length=rowsN (applyD t k d):=valid_cells hvB _ (List.getElem_mem hkB)
  have lA:(t.cols[k]).cells.length=rowsN t:=valid_cells hv _ (List.getElem_mem hk)
  have hgr:=fun r hr=>good_row hg (r:=r) hr
  have hxB:=colRows_get hkB
  have hxA:=colRows_get hk
  have hclB:=colRows_len (applyD t k d).cols
  have hclA:=colRows_len t.cols
  rw [show turnD t k d=⟨turnDrop (applyD t k d) k d (ordM (applyD t k d) k),turnAdd t k d (ordM t k)⟩ by rw [eD,eU]]
  clear eD eU hap hof hcl hvB
  generalize (applyD t k d).cols[k]=cb at *
  generalize ordM (applyD t k d) k=o at *
  generalize ordM t k=o2 at *
  generalize applyD t k d=b at *
  have hol:=natRowsS_len o
  have hol2:=natRowsS_len o2
  have htd:=fun (j:Nat) (h:j≤o.length)=>show (turnDrop b k d (o.take j)).length≤4096*100000 from
   Nat.le_trans (turnDrop_len b k d (o.take j)) (Nat.le_trans (Nat.mul_le_mul (show (o.take j).length≤4096 by rw [List.length_take];omega) hda) (Nat.le_refl _))
  have hta:=fun (j:Nat) (h:j≤o2.length)=>show (turnAdd t k d (o2.take j)).length≤4096*100000 from
   Nat.le_trans (turnAdd_len t k d (o2.take j)) (Nat.le_trans (Nat.mul_le_mul (show (o2.take j).length≤4096 by rw [List.length_take];omega) hdd) (Nat.le_refl _))
  refine gEn env Tryd.func14 fun Γ hN hK hML=>?_
  (refine gGo ?_;intros)
  (refine gPC (spA) ?_;conv=>whnf)
  (refine gGo ?_;intros)
  (refine gPC (sp1) ?_;conv=>whnf)
  (refine gGo ?_;intros)
  refine W.ownCell 10 0 0 91 2 rfl rfl rfl rfl rfl ?_
  refine W.ownCell 10 0 1 92 1 rfl rfl rfl rfl rfl ?_
  refine W.loopG (fun m st=>∃ j:Nat,j≤o.length∧m=o.length-j∧st=⟨[(1,.int .i64 (k:Nat)),(3,.ro t.row 0),(5,.ro d.row 0),(6,.bp 6 0),(8,.ro b.row 0),(10,.bp 10 0),(32,.sl (natRowsS o) false),(33,.int .i64 (natRowsS o).length),(34,.int .i64 (j:Nat))],[(6,[.rows 2 [[.nils,.nils]] none]),(10,[.rows 2 [[.osl 91 0 0 (cellRows (turnDrop b k d (o.take j))).length (cellRows (turnDrop b k d (o.take j))).length,.osl 92 0 0 (lineRows (([]:List (List Cell)))).length (lineRows (([]:List (List Cell)))).length]] none]),(91,[.rows 2 (cellRows (turnDrop b k d (o.take j))) (some [])]),(92,[.rows 1 (lineRows (([]:List (List Cell)))) (some [])])],[6,10,91,92]⟩)
   o.length _ ⟨0,by omega,by omega,rfl⟩ ⟨[(6,6),(10,10),(91,91),(92,92)],[3,5,8],[],LeG.mk' rfl rfl rfl (by repeat' (first | exact trivial | exact ⟨_,.refl _,rfl⟩ | exact ⟨_,.bp 3 0 3 t.row none rfl rfl (by simp) (.inr rfl),rfl⟩ | exact ⟨_,.bp 5 0 2 d.row none rfl rfl (by simp) (.inr rfl),rfl⟩ | exact ⟨_,.bp 8 0 3 b.row none rfl rfl (by simp) (.inr rfl),rfl⟩ | apply And.intro)) (.ci 6 (.ci 10 (.ci 91 (.ci 92 .nil)))) rfl rfl (by rw [hK];rfl)⟩ ?_
  rintro m st ⟨j,hj,rfl,rfl⟩
  (refine gGo ?_;intros)
  refine boolRes_split (fun hb=>?_) (fun hb=>?_)<;>conv=>whnf
  ·have hjl:j<o.length:=by omega
   have hgj:=natRowsS_get hjl
   have hri:=hpB _ (List.getElem_mem hjl)
   have hts:=turnDrop_snoc (b:=b) (k:=k) (d:=d) hjl
   have htl:=htd j hj
   generalize turnDrop b k d (o.take j)=D0 at *
   generalize o[j]=r at *
   have hgc:=cellRows_get (l:=cb.cells) (i:=r) (by omega)
   have hci:cellI (colK b k) r=cb.cells[r]'(by omega):=by rw [eB,cellI_in (by omega)]
   generalize cb.cells[r]'(by omega)=y at *
   (refine gGo ?_;intros)
   refine rowAt_of (by simpa using hgj) ?_
   conv=>whnf
   (refine gGo ?_;intros)
   refine W.loopG (fun m st=>∃ i:Nat,i≤d.add.length∧m=d.add.length-i∧st=⟨[(1,.int .i64 (k:Nat)),(3,.ro t.row 0),(5,.ro d.row 0),(6,.bp 6 0),(8,.ro b.row 0),(10,.bp 10 0),(32,.sl (natRowsS o) false),(33,.int .i64 (natRowsS o).length),(34,.int .i64 (j:Nat)),(12,.int .i64 (r:Nat)),(39,.sl (lineRows d.add) false),(40,.int .i64 (lineRows d.add).length),(41,.int .i64 (i:Nat))],[(6,[.rows 2 [[.nils,.nils]] none]),(10,[.rows 2 [[.osl 91 0 0 (cellRows ((D0++dropF b k r (d.add.take i)))).length (cellRows ((D0++dropF b k r (d.add.take i)))).length,.osl 92 0 0 (lineRows (([]:List (List Cell)))).length (lineRows (([]:List (List Cell)))).length]] none]),(91,[.rows 2 (cellRows ((D0++dropF b k r (d.add.take i)))) (some [])]),(92,[.rows 1 (lineRows (([]:List (List Cell)))) (some [])])],[6,10,91,92]⟩)
    d.add.length _ ⟨0,by omega,by omega,rfl⟩ ⟨[(6,6),(10,10),(91,91),(92,92)],[],[],LeG.mq (.ci 6 (.cons 10 rfl rfl (.refl _) (by rw [show dropF b k r (d.add.take 0)=[] from rfl,List.append_nil];rfl) (.cons 91 rfl rfl (.refl _) (by rw [show dropF b k r (d.add.take 0)=[] from rfl,List.append_nil];rfl) (.ci 92 .nil))))⟩ ?_
   rintro m st ⟨i,hi,rfl,rfl⟩
   have hfl:=dropF_len b k r (d.add.take i)
   have hXl:=cellRows_len (D0++dropF b k r (d.add.take i))
   rw [List.length_append] at hXl
   rw [List.length_take] at hfl
   (refine gGo ?_;intros)
   refine boolRes_split (fun hb=>?_) (fun hb=>?_)<;>conv=>whnf
   ·have hil:i<d.add.length:=by omega
    have hgx:=lineRows_get hil
    have hxl:=hgr _ (List.getElem_mem hil)
    have hsn:=dropF_snoc (b:=b) (k:=k) (r:=r) hil
    rw [hci] at hsn
    generalize d.add[i]=x at *
    have hgk:=line_cell (show k<x.length by omega)
    generalize cellI x k=z at *
    generalize dropF b k r (d.add.take i)=D1 at *
    (refine gGo ?_;intros)
    refine rowAt_of (by simpa using hgx) ?_
    conv=>whnf
    (refine gGo ?_;intros)
    refine rowAt_of (by simpa using hgk) ?_
    conv=>whnf
    (refine gGo ?_;intros)
    refine rowAt_of (by simpa using hxB) ?_
    conv=>whnf
    (refine gGo ?_;intros)
    refine rowAt_of (by simpa using hgc) ?_
    conv=>whnf
    (refine gGo ?_;intros)
    refine ⟨_,_,_,cells_eq rfl z y rfl rfl (by kernel_rfl),?_⟩
    conv=>whnf
    by_cases he:z=y
    ·rw [decide_eq_true he]
     rw [if_pos he] at hsn
     (refine gGo ?_;intros)
     refine rowAt_of (by simpa using hgk) ?_
     conv=>whnf
     (refine gGo ?_;intros)
     refine ⟨⟨rowsSz_cons rfl rowsSz_nil,rfl⟩,fitsN (n:=(cellRows (D0++D1)).length+1) (b:=24) (by omega) (by omega),.inl ⟨rfl,rfl,?_⟩⟩
     conv=>whnf
     (refine gGo ?_;intros)
     refine ⟨_,_,?_,⟨i+1,by omega,rfl,rfl⟩,[(6,6),(10,10),(91,91),(92,92)],[],[],LeG.mq (.ci 6 (.cons 10 rfl rfl (.refl _) (by rw [hsn,←List.append_assoc,cellRows_snoc,List.length_append];rfl) (.cons 91 rfl rfl (.refl _) (by rw [hsn,←List.append_assoc,cellRows_snoc];rfl) (.ci 92 .nil))))⟩
     omega
    ·rw [decide_eq_false he]
     rw [if_neg he] at hsn
     (refine gGo ?_;intros)
     refine ⟨_,_,?_,⟨i+1,by omega,rfl,rfl⟩,[(6,6),(10,10),(91,91),(92,92)],[],[],LeG.mq (.ci 6 (.cons 10 rfl rfl (.refl _) (by rw [hsn];rfl) (.cons 91 rfl rfl (.refl _) (by rw [hsn];rfl) (.ci 92 .nil))))⟩
     omega
   ·have hie:i=d.add.length:=by omega
    rw [hie,List.take_length]
    (refine gGo ?_;intros)
    refine ⟨_,_,?_,⟨j+1,by omega,rfl,rfl⟩,[(6,6),(10,10),(91,91),(92,92)],[],[],LeG.mq (by rw [hts];exact .ci 6 (.ci 10 (.ci 91 (.ci 92 .nil))))⟩
    omega
  have hje:j=o.length:=by omega
  rw [hje,List.take_length]
  have hDl:=htd o.length (Nat.le_refl _)
  rw [List.take_length] at hDl
  have hDc:=cellRows_len (turnDrop b k d o)
  generalize turnDrop b k d o=DD at *
  (refine gGo ?_;intros)
  (refine gPC (sp2) ?_;conv=>whnf)
  (refine gGo ?_;intros)
  refine W.loopG (fun m st=>∃ j:Nat,j≤o2.length∧m=o2.length-j∧st=⟨[(1,.int .i64 (k:Nat)),(3,.ro t.row 0),(5,.ro d.row 0),(6,.bp 6 0),(8,.ro b.row 0),(10,.bp 10 0),(72,.sl (natRowsS o2) false),(73,.int .i64 (natRowsS o2).length),(74,.int .i64 (j:Nat))],[(6,[.rows 2 [[.nils,.nils]] none]),(10,[.rows 2 [[.osl 91 0 0 (cellRows (DD)).length (cellRows (DD)).length,.osl 92 0 0 (lineRows (turnAdd t k d (o2.take j))).length (lineRows (turnAdd t k d (o2.take j))).length]] none]),(91,[.rows 2 (cellRows (DD)) (some [])]),(92,[.rows 1 (lineRows (turnAdd t k d (o2.take j))) (some [])])],[6,10,91,92]⟩)
   o2.length _ ⟨0,by omega,by omega,rfl⟩ ⟨[(6,6),(10,10),(91,91),(92,92)],[],[],LeG.mq (.ci 6 (.ci 10 (.ci 91 (.ci 92 .nil))))⟩ ?_
  rintro m st ⟨j,hj,rfl,rfl⟩
  (refine gGo ?_;intros)
  refine boolRes_split (fun hb=>?_) (fun hb=>?_)<;>conv=>whnf
  ·have hjl:j<o2.length:=by omega
   have hgj:=natRowsS_get hjl
   have hri:=hpA _ (List.getElem_mem hjl)
   have hts:=turnAdd_snoc (t:=t) (k:=k) (d:=d) hjl
   have htl:=hta j hj
   generalize turnAdd t k d (o2.take j)=D0 at *
   generalize o2[j]=r at *
   have spR:=rowA r hri
   have hgc:=cellRows_get (l:=(t.cols[k]).cells) (i:=r) (by omega)
   have hci:cellI (colK t k) r=(t.cols[k]).cells[r]'(by omega):=by rw [eA,cellI_in (by omega)]
   generalize (t.cols[k]).cells[r]'(by omega)=y at *
   (refine gGo ?_;intros)
   refine rowAt_of (by simpa using hgj) ?_
   conv=>whnf
   (refine gGo ?_;intros)
   refine W.loopG (fun m st=>∃ i:Nat,i≤d.drop.length∧m=d.drop.length-i∧st=⟨[(1,.int .i64 (k:Nat)),(3,.ro t.row 0),(5,.ro d.row 0),(6,.bp 6 0),(8,.ro b.row 0),(10,.bp 10 0),(72,.sl (natRowsS o2) false),(73,.int .i64 (natRowsS o2).length),(74,.int .i64 (j:Nat)),(16,.int .i64 (r:Nat)),(79,.sl (cellRows d.drop) false),(80,.int .i64 (cellRows d.drop).length),(81,.int .i64 (i:Nat))],[(6,[.rows 2 [[.nils,.nils]] none]),(10,[.rows 2 [[.osl 91 0 0 (cellRows (DD)).length (cellRows (DD)).length,.osl 92 0 0 (lineRows ((D0++addF t k r (d.drop.take i)))).length (lineRows ((D0++addF t k r (d.drop.take i)))).length]] none]),(91,[.rows 2 (cellRows (DD)) (some [])]),(92,[.rows 1 (lineRows ((D0++addF t k r (d.drop.take i)))) (some [])])],[6,10,91,92]⟩)
    d.drop.length _ ⟨0,by omega,by omega,rfl⟩ ⟨[(6,6),(10,10),(91,91),(92,92)],[],[],LeG.mq (.ci 6 (.cons 10 rfl rfl (.refl _) (by rw [show addF t k r (d.drop.take 0)=[] from rfl,List.append_nil];rfl) (.ci 91 (.cons 92 rfl rfl (.refl _) (by rw [show addF t k r (d.drop.take 0)=[] from rfl,List.append_nil];rfl) .nil))))⟩ ?_
   rintro m st ⟨i,hi,rfl,rfl⟩
   have hfl:=addF_len t k r (d.drop.take i)
   have hXl:=lineRows_len (D0++addF t k r (d.drop.take i))
   rw [List.length_append] at hXl
   rw [List.length_take] at hfl
   (refine gGo ?_;intros)
   refine boolRes_split (fun hb=>?_) (fun hb=>?_)<;>conv=>whnf
   ·have hil:i<d.drop.length:=by omega
    have hgx:=cellRows_get hil
    have hsn:=addF_snoc (t:=t) (k:=k) (r:=r) hil
    rw [hci] at hsn
    generalize d.drop[i]=z at *
    generalize addF t k r (d.drop.take i)=D1 at *
    (refine gGo ?_;intros)
    refine rowAt_of (by simpa using hgx) ?_
    conv=>whnf
    (refine gGo ?_;intros)
    refine rowAt_of (by simpa using hxA) ?_
    conv=>whnf
    (refine gGo ?_;intros)
    refine rowAt_of (by simpa using hgc) ?_
    conv=>whnf
    (refine gGo ?_;intros)
    refine ⟨_,_,_,cells_eq rfl z y rfl rfl (by kernel_rfl),?_⟩
    conv=>whnf
    by_cases he:z=y
    ·rw [decide_eq_true he]
     rw [if_pos he] at hsn
     (refine gGo ?_;intros)
     (refine gPC (spR) ?_;conv=>whnf)
     (refine gGo ?_;intros)
     refine ⟨⟨rowsSz_cons rfl rowsSz_nil,rfl⟩,fitsN (n:=(lineRows (D0++D1)).length+1) (b:=24) (by omega) (by omega),.inl ⟨rfl,rfl,?_⟩⟩
     conv=>whnf
     (refine gGo ?_;intros)
     refine ⟨_,_,?_,⟨i+1,by omega,rfl,rfl⟩,[(6,6),(10,10),(91,91),(92,92)],[],[],LeG.mq (.ci 6 (.cons 10 rfl rfl (.refl _) (by rw [hsn,←List.append_assoc,lineRows_snoc,List.length_append];rfl) (.ci 91 (.cons 92 rfl rfl (.refl _) (by rw [hsn,←List.append_assoc,lineRows_snoc];rfl) .nil))))⟩
     omega
    ·rw [decide_eq_false he]
     rw [if_neg he] at hsn
     (refine gGo ?_;intros)
     refine ⟨_,_,?_,⟨i+1,by omega,rfl,rfl⟩,[(6,6),(10,10),(91,91),(92,92)],[],[],LeG.mq (.ci 6 (.cons 10 rfl rfl (.refl _) (by rw [hsn];rfl) (.ci 91 (.cons 92 rfl rfl (.refl _) (by rw [hsn];rfl) .nil))))⟩
     omega
   ·have hie:i=d.drop.length:=by omega
    rw [hie,List.take_length]
    (refine gGo ?_;intros)
    refine ⟨_,_,?_,⟨j+1,by omega,rfl,rfl⟩,[(6,6),(10,10),(91,91),(92,92)],[],[],LeG.mq (by rw [hts];exact .ci 6 (.ci 10 (.ci 91 (.ci 92 .nil))))⟩
    omega
  have hje:j=o2.length:=by omega
  rw [hje,List.take_length]
  generalize turnAdd t k d o2=AA at *
  refine gA ?_
  refine gD rfl ?_
  refine gG ?_
  conv=>whnf
  refine W.leG (mp:=[(6,6),(10,10)]) (bo:=[91,92]) (st':=⟨[(6,.bp 6 0),(10,.bp 10 0)],[(6,[.rows 2 [[.nils,.nils]] none]),(10,[.rows 2 [[.sl (cellRows DD) false,.sl (lineRows AA) false]] none])],[6,10]⟩)
   (LeG.mq (.ci 6 (.cons 10 (b1:=.rows 2 [[.sl (cellRows DD) false,.sl (lineRows AA) false]] none) rfl rfl (.rows _ _ _ ⟨⟨⟨Lent.whole rfl rfl rfl rfl (by first | exact .inl rfl | exact .inr rfl),rfl⟩,⟨Lent.whole rfl rfl rfl rfl (by first | exact .inl rfl | exact .inr rfl),rfl⟩,trivial⟩,trivial⟩) rfl .nil))) ?_
  (refine gGo ?_;intros)
  (refine gM ?_;conv=>whnf)
  exact retH rfl (.norm _) rfl rfl rfl trivial
 ·have hof:turnM t key d=(Delta.zero,mayM t key d):=by unfold turnM;rw [if_neg hm]
  have hap:applyM t key d=(Table.zero,mayM t key d):=by unfold applyM;rw [if_neg hm]
  rw [hof]
  rw [hap] at spA
  generalize mayM t key d=e at *
  refine gEn env Tryd.func14 fun Γ hN hK hML=>?_
  (refine gGo ?_;intros)
  (refine gPC (spA) ?_;conv=>whnf)
  (refine gGo ?_;intros)
  (refine gM ?_;conv=>whnf)
  exact retH rfl (.norm _) rfl rfl rfl trivial
end Go.Sx.Sp
