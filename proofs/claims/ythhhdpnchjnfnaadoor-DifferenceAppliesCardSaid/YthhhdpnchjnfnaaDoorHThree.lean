/- The law of applied deltas. -/
import Derived.Test.YthhhdpnchjnfnaaDoorHTwo
import Derived.Test.YthhhdpnchjnfnaaDoorDTwo
import Derived.Test.YthhhdpnchjnfnaaDoorSxFour
set_option linter.unusedVariables false
set_option linter.unusedSimpArgs false
namespace Go.Sx.Sp
open Go Go.Sx Go.Proofs
attribute [local irreducible] GoodW
set_option maxHeartbeats 16000000 in
theorem of37_own (a b:Table) (key:Int) (va0:validB a=true) (vb0:validB b=true) (hnm0:namesOf a.cols=namesOf b.cols) (hc10:check37M a key=0) (hc20:check37M b key=0) :
  Spec Tryd.prog 8 [.agg a.row,.agg b.row,.int .i64 key] [] (.tup [.agg [.osl 91 0 0 (diffM a b key.toNat).drop.length (diffM a b key.toNat).drop.length,.osl 92 0 0 (diffM a b key.toNat).add.length (diffM a b key.toNat).add.length],.int .i64 0]) [(91,.rows 2 (cellRows (diffM a b key.toNat).drop) (some [])),(92,.rows 1 (lineRows (diffM a b key.toNat).add) (some []))]:=by
 have hlen0:a.cols.length=b.cols.length:=by have:=congrArg List.length hnm0;simpa [namesOf] using this
 have sp1:=valid3_spec a
 have sp2:=valid3_spec b
 have hcla:=colRows_len a.cols
 have hclb:=colRows_len b.cols
 have spA:=check37_spec a key
 have spB:=check37_spec b key
 refine gEn env Tryd.func8 fun Γ hN hK hML=>?_
 refine gA ?_
 (refine gE env hN (by kernel_rfl) ?_;conv=>whnf)
 (refine gGs ?_;intros)
 refine W.leG (mp:=[(6,6)]) (bo:=[3,4]) (st':=⟨[(2,.int .i64 key),(3,.ro a.row 0),(4,.ro b.row 0),(6,.bp 6 0),(7,.int .i64 0)],[(6,[.rows 2 [[.nils,.nils]] none])],[6]⟩)
  (LeG.mk' rfl rfl rfl ⟨⟨_,.refl _,rfl⟩,⟨_,.bp 3 0 3 a.row none rfl rfl (by simp) (.inr rfl),rfl⟩,⟨_,.bp 4 0 3 b.row none rfl rfl (by simp) (.inr rfl),rfl⟩,⟨_,.refl _,rfl⟩,⟨_,.refl _,rfl⟩,trivial⟩ (.ci 6 .nil) rfl rfl (by rw [hK];rfl)) ?_
 by_cases hcond:validB a=true∧validB b=true∧a.cols.length=b.cols.length
 ·obtain ⟨va,vb,hlen⟩:=hcond
  rw [va] at sp1
  rw [vb] at sp2
  have hofn:namesOf a.cols≠namesOf b.cols→ofM a b key=(Delta.zero,1):=fun h=>by simp only [ofM];rw [if_neg (fun h2=>h h2.2.2)]
  (refine gGo ?_;intros)
  (refine gPC (sp1) ?_;conv=>whnf)
  (refine gGo ?_;intros)
  (refine gPC (sp2) ?_;conv=>whnf)
  (refine gGo ?_;intros)
  refine W.loopG (fun m st=>∃ j:Nat,j≤a.cols.length∧(namesOf a.cols).take j=(namesOf b.cols).take j∧m=a.cols.length-j∧st=⟨[(2,.int .i64 key),(3,.ro a.row 0),(4,.ro b.row 0),(6,.bp 6 0),(7,.int .i64 0),(36,.sl (colRows a.cols) false),(37,.int .i64 (colRows a.cols).length),(38,.int .i64 (j:Nat))],[(6,[.rows 2 [[.nils,.nils]] none])],[6]⟩)
   a.cols.length _ ⟨0,by omega,rfl,by omega,rfl⟩ ⟨[(6,6)],[],[],.mq (.ci 6 .nil)⟩ ?_
  rintro m st ⟨j,hj,hnm,rfl,rfl⟩
  (refine gGo ?_;intros)
  refine boolRes_split (fun hb=>?_) (fun hb=>?_)<;>conv=>whnf
  ·have hlt:j<a.cols.length:=by omega
   have hltb:j<b.cols.length:=by omega
   have hg:=colRows_get hlt
   have hgb:=colRows_get hltb
   have hna:(namesOf a.cols).take (j+1)=(namesOf a.cols).take j++[a.cols[j].name]:=by
    rw [List.take_succ_eq_append_getElem (by simpa [namesOf] using hlt)];simp [namesOf]
   have hnb:(namesOf b.cols).take (j+1)=(namesOf b.cols).take j++[b.cols[j].name]:=by
    rw [List.take_succ_eq_append_getElem (by simpa [namesOf] using hltb)];simp [namesOf]
   have hne:a.cols[j].name≠b.cols[j].name→namesOf a.cols≠namesOf b.cols:=fun h1 h2=>h1 (by
    have e:(namesOf a.cols)[j]?=(namesOf b.cols)[j]?:=by rw [h2]
    simpa [namesOf,hlt,hltb] using e)
   generalize a.cols[j]=x at *
   generalize b.cols[j]=y at *
   (refine gGo ?_;intros)
   refine rowAt_of (by simpa using hg) ?_
   conv=>whnf
   (refine gGo ?_;intros)
   refine rowAt_of (by simpa using hgb) ?_
   conv=>whnf
   (refine gGo ?_;intros)
   by_cases he:y.name=x.name
   ·refine gL (by simpa using he) ?_
    conv=>whnf
    (refine gGo ?_;intros)
    refine ⟨_,_,?_,⟨j+1,by omega,by rw [hna,hnb,hnm,he],rfl,rfl⟩,[(6,6)],[9],[],LeG.mq (.ci 6 .nil)⟩
    omega
   ·exact absurd hnm0 (hne fun e=>he e.symm)
  ·have hje:j=a.cols.length:=by omega
   have hnames:namesOf a.cols=namesOf b.cols:=by
    rw [hje,List.take_of_length_le (by simp [namesOf]),List.take_of_length_le (by simp [namesOf];omega)] at hnm
    exact hnm
   have hof:ofM a b key=if checkM key [a,b]=0 then (diffM a b key.toNat,0) else (Delta.zero,checkM key [a,b]):=by simp only [ofM];rw [if_pos ⟨va,vb,hnames⟩]
   rw [of_check va vb hlen] at hof
   by_cases hc1:check37M a key=0
   ·rw [if_pos hc1] at hof
    rw [hc1] at spA
    by_cases hc2:check37M b key=0
    ·rw [if_pos hc2] at hof
     rw [hc2] at spB
     obtain ⟨k,rfl,hka,keyA,_⟩:=check37_zero hc1
     obtain ⟨k',hkk,hkb,keyBB,_⟩:=check37_zero hc2
     have hkk':k'=k:=by omega
     subst hkk'
     rw [Int.toNat_natCast]
     have eD:=miss_drop (b:=b) va hka keyA
     have eU:=miss_add (a:=a) vb hkb keyBB
     have spM1:=missing37_spec a b k' va vb hka hkb
     have spM2:=missing37_spec b a k' vb va hkb hka
     have hM1:∀ i∈missM a b k',i<rowsN a:=fun i hi=>ordM_lt (List.mem_filter.1 hi).1
     have hM2:∀ i∈missM b a k',i<rowsN b:=fun i hi=>ordM_lt (List.mem_filter.1 hi).1
     have hL1:(missM a b k').length≤rowsN a:=Nat.le_trans (List.length_filter_le _ _) (by rw [ordM_len];exact Nat.le_refl _)
     have hL2:(missM b a k').length≤rowsN b:=Nat.le_trans (List.length_filter_le _ _) (by rw [ordM_len];exact Nat.le_refl _)
     have hvn:=validB_n va
     have hvm:=validB_n vb
     have f64b:b.cols.length≤4294967295:=by simp only [validB,headB,Bool.and_eq_true,decide_eq_true_eq] at vb;omega
     have rowB:∀ i,i<rowsN b→Spec Tryd.prog 23 [.agg b.row,.int .i64 (i:Nat)] [] (.sl (cellRows (rowM b i)) false) []:=fun i hi=>row37_spec b i (fun c hc=>by rw [valid_cells vb c hc];exact hi) f64b
     have eA:colK a k'=a.cols[k'].cells:=by simp [colK,hka]
     have lA:a.cols[k'].cells.length=rowsN a:=valid_cells va _ (List.getElem_mem hka)
     have hxa:=colRows_get hka
     rw [eA] at eD
     generalize a.cols[k']=ca at *
     rw [show diffM a b k'=⟨(missM a b k').map (cellI ca.cells),(missM b a k').map (rowM b)⟩ by rw [eD,eU]]
     dsimp only
     rw [List.length_map,List.length_map]
     generalize missM a b k'=M1 at *
     generalize missM b a k'=M2 at *
     have hm1:=natRowsS_len M1
     have hm2:=natRowsS_len M2
     (refine gGo ?_;intros)
     (refine gPC (spA) ?_;conv=>whnf)
     (refine gGo ?_;intros)
     (refine gPC (spB) ?_;conv=>whnf)
     (refine gGo ?_;intros)
     (refine gPC (spM1) ?_;conv=>whnf)
     (refine gGo ?_;intros)
     refine W.ownCell 12 0 0 91 2 rfl rfl rfl rfl rfl ?_
     refine W.ownCell 12 0 1 92 1 rfl rfl rfl rfl rfl ?_
     refine W.loopG (fun m st=>∃ j:Nat,j≤M1.length∧m=M1.length-j∧st=⟨[(2,.int .i64 (k':Nat)),(3,.ro a.row 0),(4,.ro b.row 0),(6,.bp 6 0),(7,.int .i64 0),(12,.bp 12 0),(71,.sl (natRowsS M1) false),(72,.int .i64 (natRowsS M1).length),(73,.int .i64 (j:Nat))],[(6,[.rows 2 [[.nils,.nils]] none]),(12,[.rows 2 [[.osl 91 0 0 (j) (j),.osl 92 0 0 (0) (0)]] none]),(91,[.rows 2 (cellRows ((M1.take (j)).map (cellI ca.cells))) (some [])]),(92,[.rows 1 (([]:List (List V))) (some [])])],[6,12,91,92]⟩)
      M1.length _ ⟨0,by omega,by omega,rfl⟩ ⟨[(6,6),(12,12),(91,91),(92,92)],[],[],.mq (.ci 6 (.ci 12 (.ci 91 (.ci 92 .nil))))⟩ ?_
     rintro m st ⟨j,hj,rfl,rfl⟩
     (refine gGo ?_;intros)
     refine boolRes_split (fun hb=>?_) (fun hb=>?_)<;>conv=>whnf
     ·have hlt:j<M1.length:=by omega
      have hg:=natRowsS_get hlt
      have hr:=hM1 _ (List.getElem_mem hlt)
      have hgc:=cellRows_get (l:=ca.cells) (i:=M1[j]) (by omega)
      have hsn:(M1.take (j+1)).map (cellI ca.cells)=(M1.take j).map (cellI ca.cells)++[ca.cells[M1[j]]'(by omega)]:=by
       rw [List.take_succ_eq_append_getElem hlt,List.map_append];simp [cellI,show M1[j]<ca.cells.length by omega]
      have hcl:(cellRows ((M1.take j).map (cellI ca.cells))).length=j:=by rw [cellRows_len,List.length_map,List.length_take];omega
      generalize ca.cells[M1[j]]'(by omega)=x at *
      generalize M1[j]=r at *
      (refine gGo ?_;intros)
      refine rowAt_of (by simpa using hg) ?_
      conv=>whnf
      (refine gGo ?_;intros)
      refine rowAt_of (by simpa using hxa) ?_
      conv=>whnf
      (refine gGo ?_;intros)
      refine rowAt_of (by simpa using hgc) ?_
      conv=>whnf
      (refine gGo ?_;intros)
      refine ⟨⟨rowsSz_cons rfl rowsSz_nil,hcl.symm⟩,fitN (n:=j+1) (b:=24) (by omega) (by omega),.inl ⟨rfl,rfl,?_⟩⟩
      conv=>whnf
      (refine gGo ?_;intros)
      refine ⟨_,_,?_,⟨j+1,by omega,rfl,rfl⟩,[(6,6),(12,12),(91,91),(92,92)],[],[],LeG.mq (.ci 6 (.ci 12 (.cons 91 rfl rfl (.refl _) (by rw [hsn,cellRows_snocS];rfl) (.ci 92 .nil))))⟩
      omega
     ·have hje:j=M1.length:=by omega
      rw [hje,List.take_length]
      (refine gGo ?_;intros)
      (refine gPC (spM2) ?_;conv=>whnf)
      (refine gGo ?_;intros)
      have hl1:=cellRows_len (M1.map (cellI ca.cells))
      rw [List.length_map] at hl1
      refine W.loopG (fun m st=>∃ j:Nat,j≤M2.length∧m=M2.length-j∧st=⟨[(2,.int .i64 (k':Nat)),(3,.ro a.row 0),(4,.ro b.row 0),(6,.bp 6 0),(7,.int .i64 0),(12,.bp 12 0),(95,.sl (natRowsS M2) false),(96,.int .i64 (natRowsS M2).length),(97,.int .i64 (j:Nat))],[(6,[.rows 2 [[.nils,.nils]] none]),(12,[.rows 2 [[.osl 91 0 0 M1.length M1.length,.osl 92 0 0 (j) (j)]] none]),(91,[.rows 2 (cellRows (M1.map (cellI ca.cells))) (some [])]),(92,[.rows 1 (lineRows ((M2.take (j)).map (rowM b))) (some [])])],[6,12,91,92]⟩)
       M2.length _ ⟨0,by omega,by omega,rfl⟩ ⟨[(6,6),(12,12),(91,91),(92,92)],[],[],.mq (.ci 6 (.ci 12 (.ci 91 (.ci 92 .nil))))⟩ ?_
      rintro m st ⟨j,hj,rfl,rfl⟩
      (refine gGo ?_;intros)
      refine boolRes_split (fun hb=>?_) (fun hb=>?_)<;>conv=>whnf
      ·have hlt:j<M2.length:=by omega
       have hg:=natRowsS_get hlt
       have hr:=hM2 _ (List.getElem_mem hlt)
       have spR:=rowB _ hr
       have hsn:(M2.take (j+1)).map (rowM b)=(M2.take j).map (rowM b)++[rowM b M2[j]]:=by
        rw [List.take_succ_eq_append_getElem hlt,List.map_append];rfl
       have hcl:(lineRows ((M2.take j).map (rowM b))).length=j:=by rw [lineRows_len,List.length_map,List.length_take];omega
       generalize M2[j]=r at *
       (refine gGo ?_;intros)
       refine rowAt_of (by simpa using hg) ?_
       conv=>whnf
       (refine gGo ?_;intros)
       (refine gPC (spR) ?_;conv=>whnf)
       (refine gGo ?_;intros)
       refine ⟨⟨rowsSz_cons rfl rowsSz_nil,hcl.symm⟩,fitN (n:=j+1) (b:=24) (by omega) (by omega),.inl ⟨rfl,rfl,?_⟩⟩
       conv=>whnf
       (refine gGo ?_;intros)
       refine ⟨_,_,?_,⟨j+1,by omega,rfl,rfl⟩,[(6,6),(12,12),(91,91),(92,92)],[],[],LeG.mq (.ci 6 (.ci 12 (.ci 91 (.cons 92 rfl rfl (.refl _) (by rw [hsn,lineRows_snoc];rfl) .nil))))⟩
       omega
      ·have hje:j=M2.length:=by omega
       rw [hje,List.take_length]
       have hl2:=lineRows_len (M2.map (rowM b))
       rw [List.length_map] at hl2
       refine W.leG (mp:=[(6,6),(12,12),(91,91),(92,92)]) (bo:=[]) (st':=⟨[(6,.bp 6 0),(12,.bp 12 0),(98,.bool false)],[(6,[.rows 2 [[.nils,.nils]] none]),(12,[.rows 2 [[.osl 91 0 0 M1.length M1.length,.osl 92 0 0 (M2.length) (M2.length)]] none]),(91,[.rows 2 (cellRows (M1.map (cellI ca.cells))) (some [])]),(92,[.rows 1 (lineRows ((M2.take (M2.length)).map (rowM b))) (some [])])],[6,12,91,92]⟩)
        (LeG.mq (.ci 6 (.ci 12 (.ci 91 (.cons 92 rfl rfl (.refl _) (by rw [List.take_length];rfl) .nil))))) ?_
       rw [List.take_length]
       (refine gGo ?_;intros)
       (refine gM ?_;conv=>whnf)
       exact retH rfl (.refl _) rfl rfl rfl ⟨rfl,rfl,rfl,rfl,trivial⟩
    ·exact absurd hc20 hc2
   ·exact absurd hc10 hc1
 ·exact absurd ⟨va0,vb0,hlen0⟩ hcond
theorem keyF_ok (l:List Int) (id:Int) (p:Nat) (hp:p≤l.length):(keyF l id p).2≤l.length:=(keyGo_ok _ _ _ _ (nextP_le hp) ⟨List.nodup_nil,rfl,fun _ h=>(by cases h),fun _ h=>(by cases h)⟩).2.1
theorem keyF_pair (l:List Int) (id:Int) (p:Nat) (hp:p≤l.length):∃ ps:List Pair,PairOK ps∧(keyF l id p).1=pairT id ps:=by
 have h:=(keyGo_ok (l:=l) (nextV l p 7).toNat (nextP l p) [] [] (nextP_le hp) ⟨List.nodup_nil,rfl,fun _ h=>(by cases h),fun _ h=>(by cases h)⟩).1
 exact ⟨_,keyOK_pair h,keyT_pair id h.len⟩
theorem pair_chk {id:Int}{ps:List Pair}(h:PairOK ps) (hid:0≤id∧id≤1073741824):check37M (pairT id ps) 1=0:=by
 rw [check37_one (pair_valid h hid),pair_check1 h]
theorem diff_small {a b:Table}{k:Nat}(ha:(colK a k).length≤7) (hb:(colK b k).length≤7):(diffM a b k).drop.length≤7∧(diffM a b k).add.length≤7:=by
 unfold diffM
 simp only [sortK_len]
 unfold dropOf addOf
 rw [List.length_map,List.length_map]
 refine ⟨Nat.le_trans (List.length_filter_le _ _) (by simpa using ha),Nat.le_trans (List.length_filter_le _ _) (by simpa using hb)⟩
theorem lent_drop1 {H:Nat→List Blk}{bo:List Nat}{D:List Cell}{o l:Nat}(ho:o=1) (hl:l=D.length-1) (hb:memB 391 bo=true) (hH:H 391=[.rows 2 (cellRows D) (some [])]):Lent H bo (.osl 391 0 o l D.length) (.sl (cellRows (D.drop 1)) false):=by
 subst ho
 subst hl
 have h:=Lent.osl (bo:=bo) (H:=H) 391 1 (D.length-1) D.length 2 (cellRows D) (some []) hb hH (cellRows_len _).symm (.inl rfl)
 have e:((cellRows D).drop 1).take (D.length-1)=cellRows (D.drop 1):=by
  rw [List.take_of_length_le (by rw [List.length_drop,cellRows_len];exact Nat.le_refl _)]
  unfold cellRows
  rw [List.map_drop]
 rw [e] at h
 exact h
set_option maxHeartbeats 32000000 in
theorem applies_law (l:List Int) (raw:Delta) (key what at_:Int):Spec Tryd.prog 3 [.sl (intRows .i64 l) false,.agg raw.row,.int .i64 key,.int .i64 what,.int .i64 at_] [] (.bool true) []:=by
 have hl:=intRows_len .i64 l
 have spL:=light_spec l
 have spA:=awake37_spec
 have hrd:=cellRows_len raw.drop
 have hra:=lineRows_len raw.add
 refine gEn env Tryd.func3 fun Γ hN hK hML=>?_
 refine gA ?_
 (refine gE env hN (by kernel_rfl) ?_;conv=>whnf)
 (refine gGs ?_;intros)
 refine W.leG (mp:=[]) (bo:=[6]) (st':=⟨[(0,.sl (intRows .i64 l) false),(2,.int .i64 key),(3,.int .i64 what),(4,.int .i64 at_),(6,.ro raw.row 0)],[],[]⟩)
  (LeG.mk' rfl rfl rfl ⟨⟨_,.refl _,rfl⟩,⟨_,.refl _,rfl⟩,⟨_,.refl _,rfl⟩,⟨_,.refl _,rfl⟩,⟨_,.bp 6 0 2 raw.row none rfl rfl (by simp [Delta.row]) (.inr rfl),rfl⟩,trivial⟩ .nil rfl rfl (by rw [hK];rfl)) ?_
 by_cases hll:l.length≤500
 ·rw [decide_eq_true hll] at spL
  by_cases h20:raw.drop.length≤20∧raw.add.length≤20
  ·obtain ⟨hd20,ha20⟩:=h20
   have hq1:=keyF_ok l 1 0 (by omega)
   have spk1:=keyed_spec l 1 0 (by omega)
   obtain ⟨p1,hp1,ha⟩:=keyF_pair l 1 0 (by omega)
   rw [ha] at spk1
   have spk2:=keyed_spec l 2 (keyF l 1 0).2 hq1
   have hq2:=keyF_ok l 2 (keyF l 1 0).2 hq1
   obtain ⟨p2,hp2,hb⟩:=keyF_pair l 2 (keyF l 1 0).2 hq1
   rw [hb] at spk2
   generalize (keyF l 2 (keyF l 1 0).2).2=q2 at *
   generalize (keyF l 1 0).2=q1 at *
   have spO:=of37_own (pairT 1 p1) (pairT 2 p2) 1 (pair_valid hp1 (by omega)) (pair_valid hp2 (by omega)) rfl (pair_chk hp1 (by omega)) (pair_chk hp2 (by omega))
   obtain ⟨hD7,hE7⟩:=diff_small (a:=pairT 1 p1) (b:=pairT 2 p2) (k:=(1:Int).toNat) (by show (p1.map keyC).length≤7;rw [List.length_map];exact hp1.len) (by show (p2.map keyC).length≤7;rw [List.length_map];exact hp2.len)
   generalize (diffM (pairT 1 p1) (pairT 2 p2) (1:Int).toNat).drop=D at *
   generalize (diffM (pairT 1 p1) (pairT 2 p2) (1:Int).toNat).add=E at *
   have spM:=mod_spec what 9 (by omega)
   obtain ⟨hw0,hw7⟩:=modK_range (n:=what) (m:=9)
   have hw7:=hw7 (by omega)
   generalize modK what 9=w at *
   have hdl:=cellRows_len D
   have hel:=lineRows_len E
   generalize hA:pairT 1 p1=A at *
   generalize pairT 2 p2=B at *
   (refine gGo ?_;intros)
   (refine gPC (spL) ?_;conv=>whnf)
   (refine gGo ?_;intros)
   (refine gCA [] [(5,70)] [] (roll_spec l) ?_;conv=>whnf)
   (refine gGo ?_;intros)
   (refine gCA [(0,70)] [] [] (spk1) ?_;conv=>whnf)
   (refine gGo ?_;intros)
   (refine gCA [(0,70)] [] [] (spk2) ?_;conv=>whnf)
   (refine gGo ?_;intros)
   (refine gCA [] [(91,391),(92,392)] [] (spO) ?_;conv=>whnf)
   (refine gGs ?_;intros)
   refine W.leG (mp:=[(70,70),(14,14),(391,391),(392,392)]) (bo:=[12]) (st':=⟨[(2,.int .i64 key),(3,.int .i64 what),(4,.int .i64 at_),(6,.ro raw.row 0),(11,.bp 70 0),(12,.ro A.row 0),(14,.bp 14 0)],[(70,[diceB l q2]),(14,[.rows 2 [[.osl 391 0 0 D.length D.length,.osl 392 0 0 E.length E.length]] none]),(391,[.rows 2 (cellRows D) (some [])]),(392,[.rows 1 (lineRows E) (some [])])],[70,14,391,392]⟩)
    (LeG.mk' rfl rfl rfl (by repeat' (first | exact trivial | exact ⟨_,.refl _,rfl⟩ | exact ⟨_,.bp 12 0 3 A.row none rfl rfl (by simp [Table.row]) (.inr rfl),rfl⟩ | apply And.intro)) (.ci 70 (.ci 14 (.ci 391 (.ci 392 .nil)))) rfl rfl (by rw [hK];rfl)) ?_
   refine W.cut (fun z=>∃ X:Delta,X.drop.length≤100000∧X.add.length≤100000∧z=⟨[(2,.int .i64 key),(12,.ro A.row 0),(14,.ro (Delta.row (X)) 0)],[],[]⟩) ?_ ?_
   ·have hw:w=0∨w=1∨w=2∨w=3∨w=4∨w=5∨w=6∨w=7∨w=8:=by omega
    rcases hw with rfl | rfl | rfl | rfl | rfl | rfl | rfl | rfl | rfl
    ·(refine gGo ?_;intros)
     (refine gPC (spM) ?_;conv=>whnf)
     (refine gGo ?_;intros)
     exact ⟨_,⟨raw,by omega,by omega,rfl⟩,Ref.trans (s':=⟨[(2,.int .i64 key),(12,.ro A.row 0),(14,.bp 14 0)],[(14,[.rows 2 [Delta.row (raw)] none])],[14]⟩)
      (.le (mp:=[(14,14)]) (bo:=[391,392]) (LeG.mq (.cons 14 (b1:=.rows 2 [Delta.row (raw)] none) rfl rfl (.rows _ _ _ ⟨⟨⟨.refl _,rfl⟩,⟨.refl _,rfl⟩,trivial⟩,trivial⟩) rfl .nil)))
      (.le (mp:=[]) (bo:=[14]) (LeG.mk' rfl rfl rfl ⟨⟨_,.refl _,rfl⟩,⟨_,.refl _,rfl⟩,⟨_,.bp 14 0 2 (Delta.row (raw)) none rfl rfl (by simp [Delta.row]) (.inr rfl),rfl⟩,trivial⟩ .nil rfl rfl (by rw [hK];rfl)))⟩
    ·by_cases h0:0<D.length
     ·have spN:=mod_spec at_ D.length (by omega)
      obtain ⟨hm0,hm1⟩:=modK_range (n:=at_) (m:=D.length)
      have hm1:=hm1 (by omega)
      generalize modK at_ D.length=z at *
      obtain ⟨z,rfl⟩:∃ q:Nat,z=q:=⟨z.toNat,by omega⟩
      have hg:=cellRows_get (l:=D) (i:=z) (by omega)
      generalize D[z]'(by omega)=x at *
      (refine gGo ?_;intros)
      (refine gPC (spM) ?_;conv=>whnf)
      (refine gGo ?_;intros)
      (refine gPC (spN) ?_;conv=>whnf)
      (refine gGo ?_;intros)
      refine rowAt_of (by simpa using hg) ?_
      conv=>whnf
      (refine gGo ?_;intros)
      refine ⟨⟨rowsSz_cons rfl rowsSz_nil,hdl.symm⟩,fitsN (n:=D.length+1) (b:=24) (by omega) (by omega),.inl ⟨rfl,rfl,?_⟩⟩
      conv=>whnf
      (refine gGo ?_;intros)
      exact ⟨_,⟨Delta.mk ((D++[x])) (E),by simp;omega,by show E.length≤_;omega,rfl⟩,Ref.trans (s':=⟨[(2,.int .i64 key),(12,.ro A.row 0),(14,.bp 14 0)],[(14,[.rows 2 [[.osl 391 0 0 ((D++[x])).length ((D++[x])).length,.osl 392 0 0 (E).length (E).length]] none]),(391,[.rows 2 (cellRows ((D++[x]))) (some [])]),(392,[.rows 1 (lineRows (E)) (some [])])],[14,391,392]⟩)
       (.le (mp:=[(14,14),(391,391),(392,392)]) (bo:=[]) (LeG.mq (.cons 14 rfl rfl (.refl _) (congrArg (fun n=>([Blk.rows 2 [[V.osl 391 0 0 n n,V.osl 392 0 0 E.length E.length]] none]:List Blk)) (show (D++[x]).length=D.length+1 from List.length_append)) (.cons 391 rfl rfl (.refl _) (congrArg (fun r=>([Blk.rows 2 r (some [])]:List Blk)) (cellRows_snoc D (x))) (.cons 392 rfl rfl (.refl _) (rfl) .nil)))))
       (Ref.trans (s':=⟨[(2,.int .i64 key),(12,.ro A.row 0),(14,.bp 14 0)],[(14,[.rows 2 [Delta.row (Delta.mk ((D++[x])) (E))] none])],[14]⟩)
        (.le (mp:=[(14,14)]) (bo:=[391,392]) (LeG.mq (.cons 14 (b1:=.rows 2 [Delta.row (Delta.mk ((D++[x])) (E))] none) rfl rfl (.rows _ _ _ ⟨⟨⟨Lent.whole rfl rfl ((cellRows_len _).symm) rfl (by first | exact .inl rfl | exact .inr rfl),rfl⟩,⟨Lent.whole rfl rfl ((lineRows_len _).symm) rfl (by first | exact .inl rfl | exact .inr rfl),rfl⟩,trivial⟩,trivial⟩) rfl .nil)))
        (.le (mp:=[]) (bo:=[14]) (LeG.mk' rfl rfl rfl ⟨⟨_,.refl _,rfl⟩,⟨_,.refl _,rfl⟩,⟨_,.bp 14 0 2 (Delta.row (Delta.mk ((D++[x])) (E))) none rfl rfl (by simp [Delta.row]) (.inr rfl),rfl⟩,trivial⟩ .nil rfl rfl (by rw [hK];rfl))))⟩
     ·(refine gGo ?_;intros)
      (refine gPC (spM) ?_;conv=>whnf)
      (refine gGo ?_;intros)
      exact ⟨_,⟨(Delta.mk D E),by show D.length≤_;omega,by show E.length≤_;omega,rfl⟩,Ref.trans (s':=⟨[(2,.int .i64 key),(12,.ro A.row 0),(14,.bp 14 0)],[(14,[.rows 2 [Delta.row ((Delta.mk D E))] none])],[14]⟩)
       (.le (mp:=[(14,14)]) (bo:=[391,392]) (LeG.mq (.cons 14 (b1:=.rows 2 [Delta.row ((Delta.mk D E))] none) rfl rfl (.rows _ _ _ ⟨⟨⟨Lent.whole rfl rfl (hdl.symm) rfl (by first | exact .inl rfl | exact .inr rfl),rfl⟩,⟨Lent.whole rfl rfl (hel.symm) rfl (by first | exact .inl rfl | exact .inr rfl),rfl⟩,trivial⟩,trivial⟩) rfl .nil)))
       (.le (mp:=[]) (bo:=[14]) (LeG.mk' rfl rfl rfl ⟨⟨_,.refl _,rfl⟩,⟨_,.refl _,rfl⟩,⟨_,.bp 14 0 2 (Delta.row ((Delta.mk D E))) none rfl rfl (by simp [Delta.row]) (.inr rfl),rfl⟩,trivial⟩ .nil rfl rfl (by rw [hK];rfl)))⟩
    ·have spW:=(wordF_spec (ws:=[[97],[122],[]]) (by decide) (by decide) hq2).2
     generalize wordF [[97],[122],[]] l q2=wd at *
     (refine gGo ?_;intros)
     (refine gPC (spM) ?_;conv=>whnf)
     (refine gGo ?_;intros)
     (refine ⟨_,_,_,callG [(0,70)] [] [] rfl rfl rfl (by kernel_rfl) (spW) (by repeat' (first | exact trivial | exact Lent.refl _ | exact Lent.norm _ | exact Lent.whole rfl rfl (by first | rfl | exact List.length_append.symm | exact hlenR | simp) rfl (by first | exact .inl rfl | exact .inr rfl) | apply And.intro)) rfl ⟨rfl,rfl,rfl,rfl,rfl,by repeat' (first | exact trivial | rfl | apply And.intro),rfl,rfl⟩,?_⟩;conv=>whnf)
     (refine gGo ?_;intros)
     refine boolRes_split (fun hb=>?_) (fun hb=>?_)<;>conv=>whnf
     ·(refine gGo ?_;intros)
      refine ⟨⟨rowsSz_cons rfl rowsSz_nil,hdl.symm⟩,fitsN (n:=D.length+1) (b:=24) (by omega) (by omega),.inl ⟨rfl,rfl,?_⟩⟩
      conv=>whnf
      (refine gGo ?_;intros)
      exact ⟨_,⟨Delta.mk ((D++[(Cell.mk true wd)])) (E),by simp;omega,by show E.length≤_;omega,rfl⟩,Ref.trans (s':=⟨[(2,.int .i64 key),(12,.ro A.row 0),(14,.bp 14 0)],[(14,[.rows 2 [[.osl 391 0 0 ((D++[(Cell.mk true wd)])).length ((D++[(Cell.mk true wd)])).length,.osl 392 0 0 (E).length (E).length]] none]),(391,[.rows 2 (cellRows ((D++[(Cell.mk true wd)]))) (some [])]),(392,[.rows 1 (lineRows (E)) (some [])])],[14,391,392]⟩)
       (.le (mp:=[(14,14),(391,391),(392,392)]) (bo:=[]) (LeG.mq (.cons 14 rfl rfl (.refl _) (congrArg (fun n=>([Blk.rows 2 [[V.osl 391 0 0 n n,V.osl 392 0 0 E.length E.length]] none]:List Blk)) (show (D++[(Cell.mk true wd)]).length=D.length+1 from List.length_append)) (.cons 391 rfl rfl (.refl _) (congrArg (fun r=>([Blk.rows 2 r (some [])]:List Blk)) (cellRows_snoc D ((Cell.mk true wd)))) (.cons 392 rfl rfl (.refl _) (rfl) .nil)))))
       (Ref.trans (s':=⟨[(2,.int .i64 key),(12,.ro A.row 0),(14,.bp 14 0)],[(14,[.rows 2 [Delta.row (Delta.mk ((D++[(Cell.mk true wd)])) (E))] none])],[14]⟩)
        (.le (mp:=[(14,14)]) (bo:=[391,392]) (LeG.mq (.cons 14 (b1:=.rows 2 [Delta.row (Delta.mk ((D++[(Cell.mk true wd)])) (E))] none) rfl rfl (.rows _ _ _ ⟨⟨⟨Lent.whole rfl rfl ((cellRows_len _).symm) rfl (by first | exact .inl rfl | exact .inr rfl),rfl⟩,⟨Lent.whole rfl rfl ((lineRows_len _).symm) rfl (by first | exact .inl rfl | exact .inr rfl),rfl⟩,trivial⟩,trivial⟩) rfl .nil)))
        (.le (mp:=[]) (bo:=[14]) (LeG.mk' rfl rfl rfl ⟨⟨_,.refl _,rfl⟩,⟨_,.refl _,rfl⟩,⟨_,.bp 14 0 2 (Delta.row (Delta.mk ((D++[(Cell.mk true wd)])) (E))) none rfl rfl (by simp [Delta.row]) (.inr rfl),rfl⟩,trivial⟩ .nil rfl rfl (by rw [hK];rfl))))⟩
     ·(refine gGo ?_;intros)
      refine ⟨⟨rowsSz_cons rfl rowsSz_nil,hdl.symm⟩,fitsN (n:=D.length+1) (b:=24) (by omega) (by omega),.inl ⟨rfl,rfl,?_⟩⟩
      conv=>whnf
      (refine gGo ?_;intros)
      exact ⟨_,⟨Delta.mk ((D++[(Cell.mk false wd)])) (E),by simp;omega,by show E.length≤_;omega,rfl⟩,Ref.trans (s':=⟨[(2,.int .i64 key),(12,.ro A.row 0),(14,.bp 14 0)],[(14,[.rows 2 [[.osl 391 0 0 ((D++[(Cell.mk false wd)])).length ((D++[(Cell.mk false wd)])).length,.osl 392 0 0 (E).length (E).length]] none]),(391,[.rows 2 (cellRows ((D++[(Cell.mk false wd)]))) (some [])]),(392,[.rows 1 (lineRows (E)) (some [])])],[14,391,392]⟩)
       (.le (mp:=[(14,14),(391,391),(392,392)]) (bo:=[]) (LeG.mq (.cons 14 rfl rfl (.refl _) (congrArg (fun n=>([Blk.rows 2 [[V.osl 391 0 0 n n,V.osl 392 0 0 E.length E.length]] none]:List Blk)) (show (D++[(Cell.mk false wd)]).length=D.length+1 from List.length_append)) (.cons 391 rfl rfl (.refl _) (congrArg (fun r=>([Blk.rows 2 r (some [])]:List Blk)) (cellRows_snoc D ((Cell.mk false wd)))) (.cons 392 rfl rfl (.refl _) (rfl) .nil)))))
       (Ref.trans (s':=⟨[(2,.int .i64 key),(12,.ro A.row 0),(14,.bp 14 0)],[(14,[.rows 2 [Delta.row (Delta.mk ((D++[(Cell.mk false wd)])) (E))] none])],[14]⟩)
        (.le (mp:=[(14,14)]) (bo:=[391,392]) (LeG.mq (.cons 14 (b1:=.rows 2 [Delta.row (Delta.mk ((D++[(Cell.mk false wd)])) (E))] none) rfl rfl (.rows _ _ _ ⟨⟨⟨Lent.whole rfl rfl ((cellRows_len _).symm) rfl (by first | exact .inl rfl | exact .inr rfl),rfl⟩,⟨Lent.whole rfl rfl ((lineRows_len _).symm) rfl (by first | exact .inl rfl | exact .inr rfl),rfl⟩,trivial⟩,trivial⟩) rfl .nil)))
        (.le (mp:=[]) (bo:=[14]) (LeG.mk' rfl rfl rfl ⟨⟨_,.refl _,rfl⟩,⟨_,.refl _,rfl⟩,⟨_,.bp 14 0 2 (Delta.row (Delta.mk ((D++[(Cell.mk false wd)])) (E))) none rfl rfl (by simp [Delta.row]) (.inr rfl),rfl⟩,trivial⟩ .nil rfl rfl (by rw [hK];rfl))))⟩
    ·by_cases h0:0<E.length
     ·have spN:=mod_spec at_ E.length (by omega)
      obtain ⟨hm0,hm1⟩:=modK_range (n:=at_) (m:=E.length)
      have hm1:=hm1 (by omega)
      generalize modK at_ E.length=z at *
      obtain ⟨z,rfl⟩:∃ q:Nat,z=q:=⟨z.toNat,by omega⟩
      have hg:=lineRows_get (l:=E) (j:=z) (by omega)
      generalize E[z]'(by omega)=x at *
      (refine gGo ?_;intros)
      (refine gPC (spM) ?_;conv=>whnf)
      (refine gGo ?_;intros)
      (refine gPC (spN) ?_;conv=>whnf)
      (refine gGo ?_;intros)
      refine rowAt_of (by simpa using hg) ?_
      conv=>whnf
      (refine gGo ?_;intros)
      refine ⟨⟨rowsSz_cons rfl rowsSz_nil,hel.symm⟩,fitsN (n:=E.length+1) (b:=24) (by omega) (by omega),.inl ⟨rfl,rfl,?_⟩⟩
      conv=>whnf
      (refine gGo ?_;intros)
      exact ⟨_,⟨Delta.mk (D) ((E++[x])),by show D.length≤_;omega,by simp;omega,rfl⟩,Ref.trans (s':=⟨[(2,.int .i64 key),(12,.ro A.row 0),(14,.bp 14 0)],[(14,[.rows 2 [[.osl 391 0 0 (D).length (D).length,.osl 392 0 0 ((E++[x])).length ((E++[x])).length]] none]),(391,[.rows 2 (cellRows (D)) (some [])]),(392,[.rows 1 (lineRows ((E++[x]))) (some [])])],[14,391,392]⟩)
       (.le (mp:=[(14,14),(391,391),(392,392)]) (bo:=[]) (LeG.mq (.cons 14 rfl rfl (.refl _) (congrArg (fun n=>([Blk.rows 2 [[V.osl 391 0 0 D.length D.length,V.osl 392 0 0 n n]] none]:List Blk)) (show (E++[x]).length=E.length+1 from List.length_append)) (.cons 391 rfl rfl (.refl _) (rfl) (.cons 392 rfl rfl (.refl _) (congrArg (fun r=>([Blk.rows 1 r (some [])]:List Blk)) (lineRows_snoc E (x))) .nil)))))
       (Ref.trans (s':=⟨[(2,.int .i64 key),(12,.ro A.row 0),(14,.bp 14 0)],[(14,[.rows 2 [Delta.row (Delta.mk (D) ((E++[x])))] none])],[14]⟩)
        (.le (mp:=[(14,14)]) (bo:=[391,392]) (LeG.mq (.cons 14 (b1:=.rows 2 [Delta.row (Delta.mk (D) ((E++[x])))] none) rfl rfl (.rows _ _ _ ⟨⟨⟨Lent.whole rfl rfl ((cellRows_len _).symm) rfl (by first | exact .inl rfl | exact .inr rfl),rfl⟩,⟨Lent.whole rfl rfl ((lineRows_len _).symm) rfl (by first | exact .inl rfl | exact .inr rfl),rfl⟩,trivial⟩,trivial⟩) rfl .nil)))
        (.le (mp:=[]) (bo:=[14]) (LeG.mk' rfl rfl rfl ⟨⟨_,.refl _,rfl⟩,⟨_,.refl _,rfl⟩,⟨_,.bp 14 0 2 (Delta.row (Delta.mk (D) ((E++[x])))) none rfl rfl (by simp [Delta.row]) (.inr rfl),rfl⟩,trivial⟩ .nil rfl rfl (by rw [hK];rfl))))⟩
     ·(refine gGo ?_;intros)
      (refine gPC (spM) ?_;conv=>whnf)
      (refine gGo ?_;intros)
      exact ⟨_,⟨(Delta.mk D E),by show D.length≤_;omega,by show E.length≤_;omega,rfl⟩,Ref.trans (s':=⟨[(2,.int .i64 key),(12,.ro A.row 0),(14,.bp 14 0)],[(14,[.rows 2 [Delta.row ((Delta.mk D E))] none])],[14]⟩)
       (.le (mp:=[(14,14)]) (bo:=[391,392]) (LeG.mq (.cons 14 (b1:=.rows 2 [Delta.row ((Delta.mk D E))] none) rfl rfl (.rows _ _ _ ⟨⟨⟨Lent.whole rfl rfl (hdl.symm) rfl (by first | exact .inl rfl | exact .inr rfl),rfl⟩,⟨Lent.whole rfl rfl (hel.symm) rfl (by first | exact .inl rfl | exact .inr rfl),rfl⟩,trivial⟩,trivial⟩) rfl .nil)))
       (.le (mp:=[]) (bo:=[14]) (LeG.mk' rfl rfl rfl ⟨⟨_,.refl _,rfl⟩,⟨_,.refl _,rfl⟩,⟨_,.bp 14 0 2 (Delta.row ((Delta.mk D E))) none rfl rfl (by simp [Delta.row]) (.inr rfl),rfl⟩,trivial⟩ .nil rfl rfl (by rw [hK];rfl)))⟩
    ·by_cases h0:0<D.length
     ·(refine gGo ?_;intros)
      (refine gPC (spM) ?_;conv=>whnf)
      (refine gGo ?_;intros)
      exact ⟨_,⟨(Delta.mk (D.drop 1) E),by show (D.drop 1).length≤_;rw [List.length_drop];omega,by show E.length≤_;omega,rfl⟩,Ref.trans (s':=⟨[(2,.int .i64 key),(12,.ro A.row 0),(14,.bp 14 0)],[(14,[.rows 2 [Delta.row ((Delta.mk (D.drop 1) E))] none])],[14]⟩)
       (.le (mp:=[(14,14)]) (bo:=[391,392]) (LeG.mq (.cons 14 (b1:=.rows 2 [Delta.row ((Delta.mk (D.drop 1) E))] none) rfl rfl (.rows _ _ _ ⟨⟨⟨lent_drop1 (by first | rfl | omega) (by first | rfl | omega) rfl rfl,rfl⟩,⟨Lent.whole rfl rfl (lineRows_len _).symm rfl (by first | exact .inl rfl | exact .inr rfl),rfl⟩,trivial⟩,trivial⟩) rfl .nil)))
       (.le (mp:=[]) (bo:=[14]) (LeG.mk' rfl rfl rfl ⟨⟨_,.refl _,rfl⟩,⟨_,.refl _,rfl⟩,⟨_,.bp 14 0 2 (Delta.row ((Delta.mk (D.drop 1) E))) none rfl rfl (by simp [Delta.row]) (.inr rfl),rfl⟩,trivial⟩ .nil rfl rfl (by rw [hK];rfl)))⟩
     ·(refine gGo ?_;intros)
      (refine gPC (spM) ?_;conv=>whnf)
      (refine gGo ?_;intros)
      exact ⟨_,⟨(Delta.mk D E),by show D.length≤_;omega,by show E.length≤_;omega,rfl⟩,Ref.trans (s':=⟨[(2,.int .i64 key),(12,.ro A.row 0),(14,.bp 14 0)],[(14,[.rows 2 [Delta.row ((Delta.mk D E))] none])],[14]⟩)
       (.le (mp:=[(14,14)]) (bo:=[391,392]) (LeG.mq (.cons 14 (b1:=.rows 2 [Delta.row ((Delta.mk D E))] none) rfl rfl (.rows _ _ _ ⟨⟨⟨Lent.whole rfl rfl (hdl.symm) rfl (by first | exact .inl rfl | exact .inr rfl),rfl⟩,⟨Lent.whole rfl rfl (hel.symm) rfl (by first | exact .inl rfl | exact .inr rfl),rfl⟩,trivial⟩,trivial⟩) rfl .nil)))
       (.le (mp:=[]) (bo:=[14]) (LeG.mk' rfl rfl rfl ⟨⟨_,.refl _,rfl⟩,⟨_,.refl _,rfl⟩,⟨_,.bp 14 0 2 (Delta.row ((Delta.mk D E))) none rfl rfl (by simp [Delta.row]) (.inr rfl),rfl⟩,trivial⟩ .nil rfl rfl (by rw [hK];rfl)))⟩
    ·have spN:=mod_spec at_ 2 (by omega)
     obtain ⟨hm0,hm1⟩:=modK_range (n:=at_) (m:=2)
     have hm1:=hm1 (by omega)
     generalize modK at_ 2=z at *
     have hz:z=0∨z=1:=by omega
     rcases hz with rfl | rfl
     ·(refine gGo ?_;intros)
      (refine gPC (spM) ?_;conv=>whnf)
      (refine gGo ?_;intros)
      (refine gPC (spN) ?_;conv=>whnf)
      (refine gGo ?_;intros)
      refine And.intro ⟨by decide,by decide,show (1:Int)+0≤((2:Nat):Int) by decide⟩ ?_
      conv=>whnf
      refine And.intro (rowsSz_cons rfl (rowsSz_cons rfl rowsSz_nil)) ?_
      conv=>whnf
      (refine gGo ?_;intros)
      refine ⟨⟨rowsSz_cons rfl rowsSz_nil,hel.symm⟩,fitsN (n:=E.length+1) (b:=24) (by omega) (by omega),.inl ⟨rfl,rfl,?_⟩⟩
      conv=>whnf
      (refine gGo ?_;intros)
      exact ⟨_,⟨Delta.mk (D) ((E++[[Cell.mk false [57]]])),by show D.length≤_;omega,by simp;omega,rfl⟩,Ref.trans (s':=⟨[(2,.int .i64 key),(12,.ro A.row 0),(14,.bp 14 0)],[(14,[.rows 2 [[.osl 391 0 0 (D).length (D).length,.osl 392 0 0 ((E++[[Cell.mk false [57]]])).length ((E++[[Cell.mk false [57]]])).length]] none]),(391,[.rows 2 (cellRows (D)) (some [])]),(392,[.rows 1 (lineRows ((E++[[Cell.mk false [57]]]))) (some [])])],[14,391,392]⟩)
       (.le (mp:=[(14,14),(391,391),(392,392)]) (bo:=[]) (LeG.mq (.cons 14 rfl rfl (.refl _) (congrArg (fun n=>([Blk.rows 2 [[V.osl 391 0 0 D.length D.length,V.osl 392 0 0 n n]] none]:List Blk)) (show (E++[[Cell.mk false [57]]]).length=E.length+1 from List.length_append)) (.cons 391 rfl rfl (.refl _) (rfl) (.cons 392 rfl rfl (.refl _) (congrArg (fun r=>([Blk.rows 1 r (some [])]:List Blk)) (lineRows_snoc E ([Cell.mk false [57]]))) .nil)))))
       (Ref.trans (s':=⟨[(2,.int .i64 key),(12,.ro A.row 0),(14,.bp 14 0)],[(14,[.rows 2 [Delta.row (Delta.mk (D) ((E++[[Cell.mk false [57]]])))] none])],[14]⟩)
        (.le (mp:=[(14,14)]) (bo:=[391,392]) (LeG.mq (.cons 14 (b1:=.rows 2 [Delta.row (Delta.mk (D) ((E++[[Cell.mk false [57]]])))] none) rfl rfl (.rows _ _ _ ⟨⟨⟨Lent.whole rfl rfl ((cellRows_len _).symm) rfl (by first | exact .inl rfl | exact .inr rfl),rfl⟩,⟨Lent.whole rfl rfl ((lineRows_len _).symm) rfl (by first | exact .inl rfl | exact .inr rfl),rfl⟩,trivial⟩,trivial⟩) rfl .nil)))
        (.le (mp:=[]) (bo:=[14]) (LeG.mk' rfl rfl rfl ⟨⟨_,.refl _,rfl⟩,⟨_,.refl _,rfl⟩,⟨_,.bp 14 0 2 (Delta.row (Delta.mk (D) ((E++[[Cell.mk false [57]]])))) none rfl rfl (by simp [Delta.row]) (.inr rfl),rfl⟩,trivial⟩ .nil rfl rfl (by rw [hK];rfl))))⟩
     ·(refine gGo ?_;intros)
      (refine gPC (spM) ?_;conv=>whnf)
      (refine gGo ?_;intros)
      (refine gPC (spN) ?_;conv=>whnf)
      (refine gGo ?_;intros)
      refine And.intro ⟨by decide,by decide,show (1:Int)+1≤((2:Nat):Int) by decide⟩ ?_
      conv=>whnf
      refine And.intro (rowsSz_cons rfl (rowsSz_cons rfl rowsSz_nil)) ?_
      conv=>whnf
      (refine gGo ?_;intros)
      refine ⟨⟨rowsSz_cons rfl rowsSz_nil,hel.symm⟩,fitsN (n:=E.length+1) (b:=24) (by omega) (by omega),.inl ⟨rfl,rfl,?_⟩⟩
      conv=>whnf
      (refine gGo ?_;intros)
      exact ⟨_,⟨Delta.mk (D) ((E++[[Cell.mk false [57],Cell.mk true []]])),by show D.length≤_;omega,by simp;omega,rfl⟩,Ref.trans (s':=⟨[(2,.int .i64 key),(12,.ro A.row 0),(14,.bp 14 0)],[(14,[.rows 2 [[.osl 391 0 0 (D).length (D).length,.osl 392 0 0 ((E++[[Cell.mk false [57],Cell.mk true []]])).length ((E++[[Cell.mk false [57],Cell.mk true []]])).length]] none]),(391,[.rows 2 (cellRows (D)) (some [])]),(392,[.rows 1 (lineRows ((E++[[Cell.mk false [57],Cell.mk true []]]))) (some [])])],[14,391,392]⟩)
       (.le (mp:=[(14,14),(391,391),(392,392)]) (bo:=[]) (LeG.mq (.cons 14 rfl rfl (.refl _) (congrArg (fun n=>([Blk.rows 2 [[V.osl 391 0 0 D.length D.length,V.osl 392 0 0 n n]] none]:List Blk)) (show (E++[[Cell.mk false [57],Cell.mk true []]]).length=E.length+1 from List.length_append)) (.cons 391 rfl rfl (.refl _) (rfl) (.cons 392 rfl rfl (.refl _) (congrArg (fun r=>([Blk.rows 1 r (some [])]:List Blk)) (lineRows_snoc E ([Cell.mk false [57],Cell.mk true []]))) .nil)))))
       (Ref.trans (s':=⟨[(2,.int .i64 key),(12,.ro A.row 0),(14,.bp 14 0)],[(14,[.rows 2 [Delta.row (Delta.mk (D) ((E++[[Cell.mk false [57],Cell.mk true []]])))] none])],[14]⟩)
        (.le (mp:=[(14,14)]) (bo:=[391,392]) (LeG.mq (.cons 14 (b1:=.rows 2 [Delta.row (Delta.mk (D) ((E++[[Cell.mk false [57],Cell.mk true []]])))] none) rfl rfl (.rows _ _ _ ⟨⟨⟨Lent.whole rfl rfl ((cellRows_len _).symm) rfl (by first | exact .inl rfl | exact .inr rfl),rfl⟩,⟨Lent.whole rfl rfl ((lineRows_len _).symm) rfl (by first | exact .inl rfl | exact .inr rfl),rfl⟩,trivial⟩,trivial⟩) rfl .nil)))
        (.le (mp:=[]) (bo:=[14]) (LeG.mk' rfl rfl rfl ⟨⟨_,.refl _,rfl⟩,⟨_,.refl _,rfl⟩,⟨_,.bp 14 0 2 (Delta.row (Delta.mk (D) ((E++[[Cell.mk false [57],Cell.mk true []]])))) none rfl rfl (by simp [Delta.row]) (.inr rfl),rfl⟩,trivial⟩ .nil rfl rfl (by rw [hK];rfl))))⟩
    ·have spN:=mod_spec at_ 2 (by omega)
     obtain ⟨hm0,hm1⟩:=modK_range (n:=at_) (m:=2)
     have hm1:=hm1 (by omega)
     generalize modK at_ 2=z at *
     have hz:z=0∨z=1:=by omega
     rcases hz with rfl | rfl
     ·(refine gGo ?_;intros)
      (refine gPC (spM) ?_;conv=>whnf)
      (refine gGo ?_;intros)
      (refine gPC (spN) ?_;conv=>whnf)
      (refine gGo ?_;intros)
      refine And.intro ⟨by decide,by decide,by decide⟩ ?_
      conv=>whnf
      (refine gGo ?_;intros)
      refine ⟨⟨rowsSz_cons rfl rowsSz_nil,hel.symm⟩,fitsN (n:=E.length+1) (b:=24) (by omega) (by omega),.inl ⟨rfl,rfl,?_⟩⟩
      conv=>whnf
      (refine gGo ?_;intros)
      exact ⟨_,⟨Delta.mk (D) ((E++[[Cell.mk false [57],Cell.mk false [122]]])),by show D.length≤_;omega,by simp;omega,rfl⟩,Ref.trans (s':=⟨[(2,.int .i64 key),(12,.ro A.row 0),(14,.bp 14 0)],[(14,[.rows 2 [[.osl 391 0 0 (D).length (D).length,.osl 392 0 0 ((E++[[Cell.mk false [57],Cell.mk false [122]]])).length ((E++[[Cell.mk false [57],Cell.mk false [122]]])).length]] none]),(391,[.rows 2 (cellRows (D)) (some [])]),(392,[.rows 1 (lineRows ((E++[[Cell.mk false [57],Cell.mk false [122]]]))) (some [])])],[14,391,392]⟩)
       (.le (mp:=[(14,14),(391,391),(392,392)]) (bo:=[]) (LeG.mq (.cons 14 rfl rfl (.refl _) (congrArg (fun n=>([Blk.rows 2 [[V.osl 391 0 0 D.length D.length,V.osl 392 0 0 n n]] none]:List Blk)) (show (E++[[Cell.mk false [57],Cell.mk false [122]]]).length=E.length+1 from List.length_append)) (.cons 391 rfl rfl (.refl _) (rfl) (.cons 392 rfl rfl (.refl _) (congrArg (fun r=>([Blk.rows 1 r (some [])]:List Blk)) (lineRows_snoc E ([Cell.mk false [57],Cell.mk false [122]]))) .nil)))))
       (Ref.trans (s':=⟨[(2,.int .i64 key),(12,.ro A.row 0),(14,.bp 14 0)],[(14,[.rows 2 [Delta.row (Delta.mk (D) ((E++[[Cell.mk false [57],Cell.mk false [122]]])))] none])],[14]⟩)
        (.le (mp:=[(14,14)]) (bo:=[391,392]) (LeG.mq (.cons 14 (b1:=.rows 2 [Delta.row (Delta.mk (D) ((E++[[Cell.mk false [57],Cell.mk false [122]]])))] none) rfl rfl (.rows _ _ _ ⟨⟨⟨Lent.whole rfl rfl ((cellRows_len _).symm) rfl (by first | exact .inl rfl | exact .inr rfl),rfl⟩,⟨Lent.whole rfl rfl ((lineRows_len _).symm) rfl (by first | exact .inl rfl | exact .inr rfl),rfl⟩,trivial⟩,trivial⟩) rfl .nil)))
        (.le (mp:=[]) (bo:=[14]) (LeG.mk' rfl rfl rfl ⟨⟨_,.refl _,rfl⟩,⟨_,.refl _,rfl⟩,⟨_,.bp 14 0 2 (Delta.row (Delta.mk (D) ((E++[[Cell.mk false [57],Cell.mk false [122]]])))) none rfl rfl (by simp [Delta.row]) (.inr rfl),rfl⟩,trivial⟩ .nil rfl rfl (by rw [hK];rfl))))⟩
     ·(refine gGo ?_;intros)
      (refine gPC (spM) ?_;conv=>whnf)
      (refine gGo ?_;intros)
      (refine gPC (spN) ?_;conv=>whnf)
      (refine gGo ?_;intros)
      refine And.intro ⟨by decide,by decide,by decide⟩ ?_
      conv=>whnf
      (refine gGo ?_;intros)
      refine ⟨⟨rowsSz_cons rfl rowsSz_nil,hel.symm⟩,fitsN (n:=E.length+1) (b:=24) (by omega) (by omega),.inl ⟨rfl,rfl,?_⟩⟩
      conv=>whnf
      (refine gGo ?_;intros)
      exact ⟨_,⟨Delta.mk (D) ((E++[[Cell.mk false [57],Cell.mk false [122,255]]])),by show D.length≤_;omega,by simp;omega,rfl⟩,Ref.trans (s':=⟨[(2,.int .i64 key),(12,.ro A.row 0),(14,.bp 14 0)],[(14,[.rows 2 [[.osl 391 0 0 (D).length (D).length,.osl 392 0 0 ((E++[[Cell.mk false [57],Cell.mk false [122,255]]])).length ((E++[[Cell.mk false [57],Cell.mk false [122,255]]])).length]] none]),(391,[.rows 2 (cellRows (D)) (some [])]),(392,[.rows 1 (lineRows ((E++[[Cell.mk false [57],Cell.mk false [122,255]]]))) (some [])])],[14,391,392]⟩)
       (.le (mp:=[(14,14),(391,391),(392,392)]) (bo:=[]) (LeG.mq (.cons 14 rfl rfl (.refl _) (congrArg (fun n=>([Blk.rows 2 [[V.osl 391 0 0 D.length D.length,V.osl 392 0 0 n n]] none]:List Blk)) (show (E++[[Cell.mk false [57],Cell.mk false [122,255]]]).length=E.length+1 from List.length_append)) (.cons 391 rfl rfl (.refl _) (rfl) (.cons 392 rfl rfl (.refl _) (congrArg (fun r=>([Blk.rows 1 r (some [])]:List Blk)) (lineRows_snoc E ([Cell.mk false [57],Cell.mk false [122,255]]))) .nil)))))
       (Ref.trans (s':=⟨[(2,.int .i64 key),(12,.ro A.row 0),(14,.bp 14 0)],[(14,[.rows 2 [Delta.row (Delta.mk (D) ((E++[[Cell.mk false [57],Cell.mk false [122,255]]])))] none])],[14]⟩)
        (.le (mp:=[(14,14)]) (bo:=[391,392]) (LeG.mq (.cons 14 (b1:=.rows 2 [Delta.row (Delta.mk (D) ((E++[[Cell.mk false [57],Cell.mk false [122,255]]])))] none) rfl rfl (.rows _ _ _ ⟨⟨⟨Lent.whole rfl rfl ((cellRows_len _).symm) rfl (by first | exact .inl rfl | exact .inr rfl),rfl⟩,⟨Lent.whole rfl rfl ((lineRows_len _).symm) rfl (by first | exact .inl rfl | exact .inr rfl),rfl⟩,trivial⟩,trivial⟩) rfl .nil)))
        (.le (mp:=[]) (bo:=[14]) (LeG.mk' rfl rfl rfl ⟨⟨_,.refl _,rfl⟩,⟨_,.refl _,rfl⟩,⟨_,.bp 14 0 2 (Delta.row (Delta.mk (D) ((E++[[Cell.mk false [57],Cell.mk false [122,255]]])))) none rfl rfl (by simp [Delta.row]) (.inr rfl),rfl⟩,trivial⟩ .nil rfl rfl (by rw [hK];rfl))))⟩
    ·(refine gGo ?_;intros)
     (refine gPC (spM) ?_;conv=>whnf)
     (refine gGo ?_;intros)
     exact ⟨_,⟨(Delta.mk D E),by show D.length≤_;omega,by show E.length≤_;omega,rfl⟩,Ref.trans (s':=⟨[(2,.int .i64 key),(12,.ro A.row 0),(14,.bp 14 0)],[(14,[.rows 2 [Delta.row ((Delta.mk D E))] none])],[14]⟩)
      (.le (mp:=[(14,14)]) (bo:=[391,392]) (LeG.mq (.cons 14 (b1:=.rows 2 [Delta.row ((Delta.mk D E))] none) rfl rfl (.rows _ _ _ ⟨⟨⟨Lent.whole rfl rfl (hdl.symm) rfl (by first | exact .inl rfl | exact .inr rfl),rfl⟩,⟨Lent.whole rfl rfl (hel.symm) rfl (by first | exact .inl rfl | exact .inr rfl),rfl⟩,trivial⟩,trivial⟩) rfl .nil)))
      (.le (mp:=[]) (bo:=[14]) (LeG.mk' rfl rfl rfl ⟨⟨_,.refl _,rfl⟩,⟨_,.refl _,rfl⟩,⟨_,.bp 14 0 2 (Delta.row ((Delta.mk D E))) none rfl rfl (by simp [Delta.row]) (.inr rfl),rfl⟩,trivial⟩ .nil rfl rfl (by rw [hK];rfl)))⟩
    ·(refine gGo ?_;intros)
     (refine gPC (spM) ?_;conv=>whnf)
     (refine gGo ?_;intros)
     exact ⟨_,⟨(Delta.mk D E),by show D.length≤_;omega,by show E.length≤_;omega,rfl⟩,Ref.trans (s':=⟨[(2,.int .i64 key),(12,.ro A.row 0),(14,.bp 14 0)],[(14,[.rows 2 [Delta.row ((Delta.mk D E))] none])],[14]⟩)
      (.le (mp:=[(14,14)]) (bo:=[391,392]) (LeG.mq (.cons 14 (b1:=.rows 2 [Delta.row ((Delta.mk D E))] none) rfl rfl (.rows _ _ _ ⟨⟨⟨Lent.whole rfl rfl (hdl.symm) rfl (by first | exact .inl rfl | exact .inr rfl),rfl⟩,⟨Lent.whole rfl rfl (hel.symm) rfl (by first | exact .inl rfl | exact .inr rfl),rfl⟩,trivial⟩,trivial⟩) rfl .nil)))
      (.le (mp:=[]) (bo:=[14]) (LeG.mk' rfl rfl rfl ⟨⟨_,.refl _,rfl⟩,⟨_,.refl _,rfl⟩,⟨_,.bp 14 0 2 (Delta.row ((Delta.mk D E))) none rfl rfl (by simp [Delta.row]) (.inr rfl),rfl⟩,trivial⟩ .nil rfl rfl (by rw [hK];rfl)))⟩
   ·rintro z ⟨X,hXd,hXa,rfl⟩
    have spM3:=mod_spec key 3 (by omega)
    obtain ⟨ks,hks⟩:∃ ks:List Int,ks=[1,key,modK key 3]:=⟨_,rfl⟩
    generalize modK key 3=m3 at *
    have hkl:ks.length=3:=by rw [hks];rfl
    have hil:=intRows_len .i64 ks
    (refine gGo ?_;intros)
    (refine gPC (spM3) ?_;conv=>whnf)
    (refine gGo ?_;intros)
    refine W.loopG (fun m st=>∃ j:Nat,j≤3∧m=3-j∧st=⟨[(12,.ro A.row 0),(14,.ro X.row 0),(167,.sl (intRows .i64 ks) false),(168,.int .i64 (intRows .i64 ks).length),(169,.int .i64 (j:Nat))],[],[]⟩) 3 _ ⟨0,by omega,by omega,rfl⟩ ⟨[],[],[],LeG.mk' rfl rfl rfl (by rw [hks];exact (by repeat' (first | exact trivial | exact ⟨_,.refl _,rfl⟩ | apply And.intro))) .nil rfl rfl (by rw [hK];rfl)⟩ ?_
    rintro m st ⟨j,hj,rfl,rfl⟩
    (refine gGo ?_;intros)
    refine boolRes_split (fun hb=>?_) (fun hb=>?_)<;>conv=>whnf
    ·have hjl:j<ks.length:=by omega
     have hg:=intRows_get (k:=.i64) hjl
     generalize ks[j]=k at *
     have s1:=apply_spec A k X (by omega) (by omega)
     have s2:=apply37_spec A k X (by omega) (by omega)
     have s3:=turn_spec A k X (by omega) (by omega)
     have s4:=turn37_spec A k X hXd hXa
     have s5:=same3_spec (applyM A k X).1 (applyM A k X).1
     have s6:=same37_spec (turnM A k X).1 (turnM A k X).1
     rw [decide_eq_true rfl] at s5 s6
     generalize applyM A k X=P1 at *
     generalize turnM A k X=P2 at *
     (refine gGo ?_;intros)
     refine rowAt_of (by simpa using hg) ?_
     conv=>whnf
     (refine gGo ?_;intros)
     (refine gPC (s1) ?_;conv=>whnf)
     (refine gGo ?_;intros)
     (refine gPC (s2) ?_;conv=>whnf)
     (refine gGo ?_;intros)
     (refine gPC (s3) ?_;conv=>whnf)
     (refine gGo ?_;intros)
     (refine gPC (s4) ?_;conv=>whnf)
     (refine gGo ?_;intros)
     (refine gPC (s5) ?_;conv=>whnf)
     (refine gGo ?_;intros)
     (refine gPC (s6) ?_;conv=>whnf)
     (refine gGo ?_;intros)
     refine ⟨_,_,?_,⟨j+1,by omega,rfl,rfl⟩,[],[],[],LeG.mq .nil⟩
     omega
    ·(refine gGo ?_;intros)
     (refine gPC (spA) ?_;conv=>whnf)
     (refine gGr ?_;intros)
     exact ret0 rfl rfl rfl
  ·rcases Classical.not_and_iff_not_or_not.1 h20 with h | h
   ·(refine gGo ?_;intros)
    (refine gPC (spL) ?_;conv=>whnf)
    (refine gGo ?_;intros)
    (refine gPC (spA) ?_;conv=>whnf)
    (refine gGr ?_;intros)
    exact ret0 rfl rfl rfl
   ·by_cases hd20:raw.drop.length≤20
    ·(refine gGo ?_;intros)
     (refine gPC (spL) ?_;conv=>whnf)
     (refine gGo ?_;intros)
     (refine gPC (spA) ?_;conv=>whnf)
     (refine gGr ?_;intros)
     exact ret0 rfl rfl rfl
    ·(refine gGo ?_;intros)
     (refine gPC (spL) ?_;conv=>whnf)
     (refine gGo ?_;intros)
     (refine gPC (spA) ?_;conv=>whnf)
     (refine gGr ?_;intros)
     exact ret0 rfl rfl rfl
 ·rw [decide_eq_false hll] at spL
  (refine gGo ?_;intros)
  (refine gPC (spL) ?_;conv=>whnf)
  (refine gGo ?_;intros)
  (refine gPC (spA) ?_;conv=>whnf)
  (refine gGr ?_;intros)
  exact ret0 rfl rfl rfl
theorem wf_cells {n:Nat}{rows:List (List V)}(hs:∀ r∈rows,shape T (n+2) 40 r):∃ l:List Cell,rows=cellRows l:=by
 obtain ⟨l,h,_⟩:=rows_map (f:=Cell.row) (p:=fun _=>True) (rows:=rows) fun r hr=>by
  obtain ⟨a,b,rfl,ha,c,d,rfl,hc,rfl⟩:=shape_st (T:=T) (t:=40) rfl (hs r hr)
  obtain ⟨x,rfl⟩:=shape_bool (T:=T) (t:=4) rfl ha
  obtain ⟨y,rfl,_⟩:=shape_str (T:=T) (t:=9) rfl hc
  exact ⟨⟨x,y⟩,rfl,trivial⟩
 exact ⟨l,h⟩
theorem wf_lines {n:Nat}{rows:List (List V)}(hs:∀ r∈rows,shape T (n+3) 23 r):∃ l:List (List Cell),rows=lineRows l:=by
 obtain ⟨l,h,_⟩:=rows_map (f:=lineV) (p:=fun _=>True) (rows:=rows) fun r hr=>by
  obtain ⟨q,rfl,_,hq⟩:=shape_sl (T:=T) (t:=23) rfl (hs r hr)
  obtain ⟨l,rfl⟩:=wf_cells hq
  exact ⟨l,rfl,trivial⟩
 exact ⟨l,h⟩
theorem arg_delta {n:Nat}{u:V}(hs:argShape T (n+5) 26 u):∃ d:Delta,u=.agg d.row:=by
 obtain ⟨vs,rfl,h⟩:=argShape_agg (T:=T) (t:=26) rfl rfl hs
 obtain ⟨a,b,rfl,ha,c,d,rfl,hc,rfl⟩:=shape_st (T:=T) (t:=26) rfl h
 obtain ⟨q,rfl,_,hq⟩:=shape_sl (T:=T) (t:=23) rfl ha
 obtain ⟨l,rfl⟩:=wf_cells hq
 obtain ⟨q2,rfl,_,hq2⟩:=shape_sl (T:=T) (t:=24) rfl hc
 obtain ⟨l2,rfl⟩:=wf_lines hq2
 exact ⟨⟨l,l2⟩,rfl⟩
theorem arg_ints {n:Nat}{u:V}(hs:argShape T (n+2) 22 u):∃ l:List Int,u=.sl (intRows .i64 l) false:=by
 obtain ⟨rows,hr,_,h⟩:=shape_sl (T:=T) (t:=22) rfl (argShape_one (T:=T) (t:=22) rfl rfl hs)
 obtain ⟨l,rfl,_⟩:=rows_map (f:=fun x:Int=>[V.int .i64 x]) (p:=fun _=>True) (rows:=rows) fun r hr=>by
  obtain ⟨x,rfl,_⟩:=shape_int (T:=T) (t:=3) rfl (h r hr)
  exact ⟨x,rfl,trivial⟩
 cases hr
 exact ⟨l,rfl⟩
theorem arg_int {n:Nat}{u:V}(hs:argShape T (n+1) 3 u):∃ x:Int,u=.int .i64 x∧-9223372036854775808≤x∧x≤9223372036854775807:=by
 obtain ⟨x,h,h1,h2⟩:=shape_int (T:=T) (t:=3) rfl (argShape_one (T:=T) (t:=3) rfl rfl hs)
 cases h
 rw [show IntKind.i64.min=-9223372036854775808 by decide] at h1
 rw [show IntKind.i64.max=9223372036854775807 by decide] at h2
 exact ⟨x,rfl,h1,h2⟩
theorem applies_calls {w:World}{v0 v1 v2 v3 v4:Value}{u0 u1 u2 u3 u4:V}(r0:VRel w (fun _=>False) (fun _ _=>none) u0 v0) (r1:VRel w (fun _=>False) (fun _ _=>none) u1 v1) (r2:VRel w (fun _=>False) (fun _ _=>none) u2 v2) (r3:VRel w (fun _=>False) (fun _ _=>none) u3 v3) (r4:VRel w (fun _=>False) (fun _ _=>none) u4 v4)
  (a0:argShape T 2 22 u0) (a1:argShape T 5 26 u1) (a2:argShape T 1 3 u2) (a3:argShape T 1 3 u3) (a4:argShape T 1 3 u4) (hg:GRel w (fun _=>False)) :
  Calls Tryd.prog 3 #[v0,v1,v2,v3,v4] w fun e w'=>e=.returned (.bool true)∧Go.RowKit.Below w.heap.size w w':=by
 obtain ⟨l,rfl⟩:=arg_ints a0
 obtain ⟨d,rfl⟩:=arg_delta (n:=0) a1
 obtain ⟨z,rfl,_⟩:=arg_int (n:=0) a2
 obtain ⟨x,rfl,_⟩:=arg_int (n:=0) a3
 obtain ⟨y,rfl,_⟩:=arg_int (n:=0) a4
 refine Spec.law (applies_law l d z x y) (cargs:=[v0,v1,v2,v3,v4]) rfl (fun j u c hj hc=>?_) rfl hg
 match j with
 | 0=>cases hj;cases hc;exact r0
 | 1=>cases hj;cases hc;exact r1
 | 2=>cases hj;cases hc;exact r2
 | 3=>cases hj;cases hc;exact r3
 | 4=>cases hj;cases hc;exact r4
 | j+5=>cases hj
end Go.Sx.Sp
