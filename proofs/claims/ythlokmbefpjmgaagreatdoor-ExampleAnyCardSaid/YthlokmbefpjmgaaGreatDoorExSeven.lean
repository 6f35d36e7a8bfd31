/- Finding answers. -/
import Derived.Test.YthlokmbefpjmgaaGreatDoorExSix
import Derived.Test.YthlokmbefpjmgaaGreatDoorRtFive
import Derived.Test.YthlokmbefpjmgaaGreatDoorSxFive
import Derived.Test.YthlokmbefpjmgaaGreatDoorSxFour
set_option linter.unusedVariables false
set_option linter.unusedSimpArgs false
namespace Go.Sx.Sp
open Go Go.Sx Go.Proofs Go.Sort
attribute [local irreducible] GoodW famL
theorem fndC_eq (a b:Fnd):fndC a b=if cmpJ (a.p.steps.length:Nat) (b.p.steps.length:Nat)=0 then (if cmpJ a.rows b.rows=0 then orL [ordC a.p b.p,lexC refC a.cs b.cs] else cmpJ a.rows b.rows) else cmpJ (a.p.steps.length:Nat) (b.p.steps.length:Nat):=by
 unfold fndC;simp only [orL]
def PC (a b:Pth×List Rf):Int:=orL [ordC a.1 b.1,lexC refC a.2 b.2]
theorem PC_tot:TotC PC:=TotC.two (α:=Pth×List Rf) ordC_tot (lexC_tot refC_tot) (f:=Prod.fst) (g:=Prod.snd) (fun a b h1 h2=>Prod.ext h1 h2)
theorem fnd_two (a b:Fnd):orL [cmpJ a.rows b.rows,PC (a.p,a.cs) (b.p,b.cs)]=if cmpJ a.rows b.rows=0 then orL [ordC a.p b.p,lexC refC a.cs b.cs] else cmpJ a.rows b.rows:=by
 rw [orL_two];rfl
theorem fndC_tot:TotC fndC:=by
 have h1:TotC fun a b:Fnd=>orL [cmpJ a.rows b.rows,PC (a.p,a.cs) (b.p,b.cs)]:=TotC.two (α:=Fnd) cmpJ_tot PC_tot (f:=Fnd.rows) (g:=fun x=>(x.p,x.cs)) (fun a b h1 h2=>by
  cases a;cases b
  simp only [Prod.mk.injEq] at h1 h2
  obtain ⟨h2,h3⟩:=h2
  subst h1;subst h2;subst h3;rfl)
 have h:=TotC.num (fun x:Fnd=>((x.p.steps.length:Nat):Int)) h1;have e:fndC=_:=funext fun a=>funext fun b=>(fndC_eq a b).trans (by rw [←fnd_two]);rw [e];exact h
section
attribute [local instance] GQ
set_option maxHeartbeats 4000000 in
theorem cmpF_spec (a b:Fnd):Spec Tryz.prog 24 [.agg a.row,.agg b.row] [] (.int .i64 (fndC a b)) []:=by
 have s1:=cmpQ_spec (a.p.steps.length:Nat) (b.p.steps.length:Nat);have s2:=cmpQ_spec a.rows b.rows;have s3:=orderQ_spec a.p b.p;have s4:=cmpRefsQ_spec a.cs b.cs;have s5:=orQ_spec [cmpJ (a.p.steps.length:Nat) (b.p.steps.length:Nat),cmpJ a.rows b.rows,ordC a.p b.p,lexC refC a.cs b.cs];rw [←stpRows_len a.p.steps,←stpRows_len b.p.steps] at s1;unfold fndC;rw [←stpRows_len a.p.steps,←stpRows_len b.p.steps] at s5 ⊢;generalize cmpJ ((stpRows a.p.steps).length:Nat) ((stpRows b.p.steps).length:Nat)=x at *;generalize cmpJ a.rows b.rows=y at *;generalize ordC a.p b.p=z at *;generalize lexC refC a.cs b.cs=u at *;refine gEn env Tryz.func24 fun Γ hN hK hML=>?_;refine gGo ?_;intros;(refine gPC (s1) ?_;conv=>whnf);refine gGo ?_;(refine gPC (s2) ?_;conv=>whnf);refine gGo ?_;(refine gPC (s3) ?_;conv=>whnf);refine gGo ?_;(refine gPC (s4) ?_;conv=>whnf);refine gGo ?_;(refine gPC (s5) ?_;conv=>whnf);refine gGr ?_;exact ret0 rfl rfl rfl
end
theorem sortF_spec (l:List Fnd) (hn:l.length<4611686018427387904):Spec Tryz.prog 101 [.osl 0 0 0 (fndRows l).length (fndRows l).length,.fn 24 []] [(0,.rows 5 (fndRows l) (some []))] (.tup []) [(0,.rows 5 (fndRows (sortBy fndC l)) (some []))]:=
 sortFunc_spec Tryz.sortFound 5 (by decide) Tryz.isAgg54 Tryz.sizeOf54 Fnd.row (fun _=>rfl) fndC fndC_tot.swo fndC_tot.tot 24 [] (fun u hu=>by cases hu) cmpF_spec l hn
theorem fndRows_pr (l:List Fnd) (ks:Option (List Nat)):pureRows (fndRows l) ks:=.inr (by
 unfold fndRows
 rw [List.all_eq_true]
 intro r hr
 obtain ⟨c,_,rfl⟩:=List.mem_map.1 hr
 rfl)
set_option maxHeartbeats 4000000 in
theorem firstF_spec (ps:List Fnd) (k:Nat) (hn:ps.length≤1000000000000) (hk:k≤1000000):Spec Tryz.prog 43 [.osl 0 0 0 ps.length ps.length,.int .i64 (k:Nat),.fn 24 []] [(0,.rows 5 (fndRows ps) (some []))] (.osl 0 0 0 (min k ps.length) ps.length) [(0,.rows 5 (fndRows (sortBy fndC ps)) (some []))]:=by
 have spS:=sortF_spec ps (by omega);have hl1:=fndRows_len ps;have hl2:(fndRows (sortBy fndC ps)).length=ps.length:=by rw [fndRows_len,sortBy_len]
 rw [hl1] at spS;refine gEn env Tryz.func43 fun Γ hN hK hML=>?_;refine gGo ?_;(refine ⟨_,_,_,callG [(0,0)] [] [] rfl rfl rfl (by kernel_rfl) (spS) (by repeat' (first | exact trivial | exact Lent.refl _ | exact Lent.norm _ | exact Lent.whole rfl rfl (by first | rfl | exact List.length_append.symm | exact hlenR | simp) rfl (by first | exact .inl rfl | exact .inr rfl) | apply And.intro)) rfl ⟨rfl,rfl,rfl,rfl,rfl,by repeat' (first | exact trivial | rfl | apply And.intro),rfl,rfl⟩,?_⟩;conv=>whnf);refine gGo ?_;intros;have hm:(min (k:Int) (ps.length:Int)).toNat=min k ps.length:=by omega
 refine ⟨⟨by omega,(show (0:Int)≤min (k:Int) (ps.length:Int) by omega),(show min (k:Int) (ps.length:Int)≤ps.length by omega)⟩,?_⟩;(conv=>whnf);refine gGo ?_;(refine gM ?_;conv=>whnf);exact retH rfl (Less.of_eq (by show V.osl 0 0 0 ((min (k:Int) (ps.length:Int)).toNat-0) ps.length=_;rw [hm];rfl)) rfl rfl rfl ⟨rfl,rfl,trivial⟩
theorem exE_zero {q:Table}(h:exE q=0):validB q=true∧q.cols.length≠0∧q.cols.length≤3:=by
 unfold exE at h;split at h
 ·rename_i h1;split at h
  ·cases h
  ·rename_i h2;exact ⟨h1,by omega,by omega⟩
 ·cases h
theorem validB_rect {q:Table}(h:validB q=true):RectT q∧rowsN q≤4096:=by
 simp only [validB,headB,Bool.and_eq_true,decide_eq_true_eq,Bool.not_eq_true',List.any_eq_false] at h;refine ⟨fun c hc=>?_,h.1.2⟩;have h1:=h.2 c hc;unfold badCol at h1;simp only [Bool.or_eq_true,decide_eq_true_eq,not_or,Decidable.not_not] at h1;exact h1.1.2
theorem prodL_le {b:Nat}:∀ fs:List (List Rf),(∀ f∈fs,f.length≤b)→(prodL fs).length≤b ^ fs.length
 | [],_=>by simp [prodL]
 | f::fs,h=>by
  rw [prodL_cons_len,List.length_cons,Nat.pow_succ,Nat.mul_comm];exact Nat.mul_le_mul (prodL_le fs fun g hg=>h g (List.mem_cons_of_mem _ hg)) (h f List.mem_cons_self)
theorem refs_len {l:List Table}{p:Pth}(h:validE l p=0):(refsL (tabsM l p)).length≤320:=by
 have h1:=refsI_len (tabsM_small (p:=p) (valid_path h).1) (tabsM l p).length;rw [refsI_all,tabsM_len] at h1;have h4:=(valid_path h).2.1;omega
theorem ansL_len {l:List Table}{p:Pth}{q:Table}(h:validE l p=0) (hq:exE q=0):(ansL l q p).length≤32768000:=by
 unfold ansL;rw [List.length_map];refine Nat.le_trans (List.length_filter_le _ _) ?_;rw [choicesR_count];obtain ⟨_,_,h3⟩:=exE_zero hq;refine Nat.le_trans (Nat.pow_le_pow_left (refs_len h) _) ?_;exact Nat.le_trans (Nat.pow_le_pow_right (by omega) h3) (by decide)
theorem pathAns_len {l:List Table}{p:Pth}{q:Table}(h:validE l p=0) (hq:exE q=0):(pathAns l q p).length≤32768000:=by
 unfold pathAns;split
 ·exact ansL_len h hq
 ·simp
theorem visG_ans {l:List Table}{p:Pth}{q:Table}(hq:RectT q) (out:List Fnd):visG p (cellsR l p) q (rowsL l p).length (toR (refsL (tabsM l p)) (fitsI (refsL (tabsM l p)) (cellsR l p) q.cols)) [] out=out++ansL l q p:=by
 rw [toR_fits];exact prog_ans hq out
theorem joinF_spec {l:List Table}{p:Pth}{q:Table}(h:validE l p=0) (hq:exE q=0) (hn:(rowsL l p).length≤4096) (out:List Fnd) (ho:out.length≤50000000000) :
  Spec Tryz.prog 42 [.agg (jnRow p (joinR l p) (joinC l p) (rowsL l p).length),.agg q.row,.osl 0 0 0 out.length out.length] [(0,.rows 5 (fndRows out) (some []))] (.osl 0 0 0 (out++ansL l q p).length (out++ansL l q p).length) [(0,.rows 5 (fndRows (out++ansL l q p)) (some []))]:=by
 obtain ⟨hv,h1,h3⟩:=exE_zero hq;obtain ⟨hr,hb⟩:=validB_rect hv;have hrl:=refs_len h;rw [←visG_ans hr out];refine findJ_spec hr (by omega) (by omega) (fun cs _=>⟨shTab_rect l p cs,Nat.le_trans (shTab_rows l p cs) (by omega)⟩) (by unfold joinR;omega) out ?_;have h2:(prodL (toR (joinR l p) (fitsI (joinR l p) (cellsR l p) q.cols))).length≤32768000:=by
  rw [toR_fits];refine Nat.le_trans (prodL_le (b:=320) _ fun f hf=>?_) ?_
  ·obtain ⟨c,_,rfl⟩:=List.mem_map.1 hf;exact Nat.le_trans (List.length_filter_le _ _) hrl
  ·rw [List.length_map];exact Nat.le_trans (Nat.pow_le_pow_right (by omega) h3) (by decide)
 omega
theorem exPathsM_len (l:List Table) (E:List (List Int)) (steps:Int):(exPathsM l E steps).1.length≤1024:=by
 unfold exPathsM
 repeat' split
 ·rw [sortBy_len];assumption
 all_goals simp
theorem fnd_set_lent {H:Nat→List Blk}{bo:List Nat}{S:List Fnd}{f:Fnd}{i j:Nat}{q:Nat}{ks ks2:Option (List Nat)}(hij:i=j) (hj:S[j]?=some f) (hb:memB q bo=true) (hq:H q=[.rows 4 (stpRows f.p.steps) ks2]) :
  BLent H bo (.rows 5 ((fndRows S).set i [.int .i64 f.p.start,.osl q 0 0 (stpRows f.p.steps).length (stpRows f.p.steps).length,.sl [] false,.sl (rfRows f.cs) false,.int .i64 f.rows]) ks) (.rows 5 (fndRows S) (some [])):=by
 subst hij;refine .rowsF _ _ _ _ (by simp) fun n r1 hi=>?_;have hi0:=hi;unfold fndRows at hi;rw [List.getElem?_map,Option.map_eq_some_iff] at hi;obtain ⟨x,hx,rfl⟩:=hi;by_cases e:n=i
 ·subst e;have hlt:n<(fndRows S).length:=by
   rw [fndRows_len];exact (List.getElem?_eq_some_iff.1 hx).1
  rw [hj] at hx;cases hx;refine ⟨[.int .i64 f.p.start,.osl q 0 0 (stpRows f.p.steps).length (stpRows f.p.steps).length,.sl [] false,.sl (rfRows f.cs) false,.int .i64 f.rows],by rw [List.getElem?_set_self hlt],rfl,fun j v1 hj=>?_⟩
  match j,hj with
  | 0,hj=>cases hj;exact ⟨_,rfl,.refl _,rfl,rfl⟩
  | 1,hj=>cases hj;exact ⟨_,rfl,Lent.whole hb hq rfl rfl (stpRows_pr _ _),rfl,rfl⟩
  | 2,hj=>cases hj;exact ⟨_,rfl,.refl _,rfl,rfl⟩
  | 3,hj=>cases hj;exact ⟨_,rfl,.refl _,rfl,rfl⟩
  | 4,hj=>cases hj;exact ⟨_,rfl,.refl _,rfl,rfl⟩
  | j+5,hj=>simp [Fnd.row] at hj
 ·refine ⟨x.row,by rw [List.getElem?_set_ne (by omega)];exact hi0,rfl,fun j v1 hj=>⟨v1,hj,.refl _,?_⟩⟩
  match j,hj with
  | 0,hj=>cases hj;exact ⟨rfl,rfl⟩
  | 1,hj=>cases hj;exact ⟨rfl,rfl⟩
  | 2,hj=>cases hj;exact ⟨rfl,rfl⟩
  | 3,hj=>cases hj;exact ⟨rfl,rfl⟩
  | 4,hj=>cases hj;exact ⟨rfl,rfl⟩
  | j+5,hj=>simp [Fnd.row] at hj
set_option maxHeartbeats 16000000 in
theorem exFind_spec (l:List Table) (E:List (List Int)) (q:Table) (steps k:Int) (hs:∀ t∈l,SmallT t) (h11:∀ r∈E,Rel11 r) (hE:E.length≤1000000):Spec Tryz.prog 20 [.sl (tblRows l) false,.sl (relRows E) false,.agg q.row,.int .i64 steps,.int .i64 k] [] (.tup [.sl (fndRows (findM l E q steps k).1) false,.int .i64 (findM l E q steps k).2]) []:=by
 have spV:=exValid_spec q;have spP:=exPaths_spec l E steps hs h11 hE;have hpl:=exPathsM_len l E steps;have hpm:=fun p (hp:p∈(exPathsM l E steps).1)=>exPathsM_mem hp;unfold findM;by_cases hk:0≤k∧k≤1024
 ·rw [if_pos hk];obtain ⟨k,rfl⟩:∃ n:Nat,k=n:=⟨k.toNat,by omega⟩
  rw [Int.toNat_natCast];by_cases hq:exE q=0
  ·rw [if_pos hq];rw [hq] at spV;generalize exPathsM l E steps=pe at *;obtain ⟨ps,e⟩:=pe;simp only at hpl spP hpm ⊢;have hpr:=pthRows_len ps;by_cases he:e=0
   ·subst he;rw [if_pos rfl];have hval:∀ p∈ps,validE l p=0:=fun p hp=>by
     obtain ⟨h1,h2,h3⟩:=hpm p hp;exact candL_valid h1 (by omega) h3
    have hOl:∀ (ps:List Pth),(∀ p∈ps,validE l p=0)→(ps.flatMap (pathAns l q)).length≤ps.length*32768000:=fun ps=>by
     induction ps with
     | nil=>intro _;simp
     | cons p ps ih =>
      intro h;rw [List.flatMap_cons,List.length_append,List.length_cons,Nat.add_mul];have h1:=ih fun x hx=>h x (List.mem_cons_of_mem _ hx);have h2:=pathAns_len (q:=q) (h p List.mem_cons_self) hq;omega
    refine gEn env Tryz.func20 fun Γ hN hK hML=>?_;(refine g ?_;intros);refine W.ownNil 15 90 5 rfl rfl ?_;refine W.loopR (fun m st=>∃ (j:Nat) (O:List Fnd),j≤ps.length∧O=(ps.take j).flatMap (pathAns l q)∧m=ps.length-j∧st=⟨[(0,.sl (tblRows l) false),(4,.int .i64 (k:Nat)),(7,.bp 7 0),(15,.osl 90 0 0 O.length O.length),(43,.sl (pthRows ps) false),(44,.int .i64 (pthRows ps).length),(45,.int .i64 (j:Nat))],[(7,[.rows 3 [q.row] none]),(90,[.rows 5 (fndRows O) (some [])])],[7,90]⟩)
     ps.length _ ⟨0,[],by omega,rfl,by omega,rfl⟩ gY ?_
    rintro m st ⟨j,O,hj,hO,rfl,rfl⟩;have hol:=fndRows_len O;have hOb:O.length≤1024*32768000:=by
     rw [hO];refine Nat.le_trans (hOl _ fun p hp=>hval p (List.mem_of_mem_take hp)) (Nat.mul_le_mul_right _ ?_);rw [List.length_take];omega
    refine gT (fun hb=>?_) fun hb=>?_
    ·have hlt:j<ps.length:=by omega
     have hg:=pthRows_get hlt;have hv:=hval ps[j] (List.getElem_mem hlt);have hsn:(ps.take (j+1)).flatMap (pathAns l q)=O++pathAns l q ps[j]:=by
      rw [hO,List.take_succ_eq_append_getElem hlt,List.flatMap_append];simp
     generalize ps[j]=p at *;by_cases hrw:(rowsL l p).length≤4096
     ·rw [show pathAns l q p=ansL l q p from if_pos hrw] at hsn;have sp1:=join_ok hv hrw;have sp2:=joinF_spec hv hq hrw O (by omega);refine g ?_;(refine gCA [(0,90)] [] [] (sp2) ?_;conv=>whnf);refine gGo ?_;exact gW ⟨j+1,O++ansL l q p,by omega,hsn.symm,rfl,rfl⟩
     ·rw [show pathAns l q p=[] from if_neg hrw,List.append_nil] at hsn;have sp1:=join_many hv hrw;refine g ?_;exact gW ⟨j+1,O,by omega,hsn.symm,rfl,rfl⟩
    ·have hje:j=ps.length:=by omega
     subst hje;rw [List.take_length] at hO;rw [←hO];have spF:=firstF_spec O k (by omega) (by omega)
     have hS:(sortBy fndC O).length=O.length:=sortBy_len _ _;have hSr:=fndRows_len (sortBy fndC O);refine gGo ?_;(refine gCA [(0,90)] [] [] (spF) ?_;conv=>whnf);refine gGo ?_;intros;have hSt:∀ f∈sortBy fndC O,f.p.steps.length≤4:=fun f hf=>by
      have h1:=(sortBy_mem fndC).1 hf;rw [hO] at h1;obtain ⟨p,hp,h2⟩:=List.mem_flatMap.1 h1;have h3:f.p=p:=by
       unfold pathAns at h2;split at h2
       ·obtain ⟨cs,_,rfl⟩:=List.mem_map.1 h2;rfl
       ·cases h2
      rw [h3];exact (valid_path (hval p hp)).2.1
     generalize sortBy fndC O=S at *;obtain ⟨m,hm⟩:∃ m,m=min k O.length:=⟨_,rfl⟩
     rw [←hm];have hfz:((fndRows S).drop 0).take m=fndRows (S.take k):=by
      unfold fndRows;rw [List.drop_zero,List.map_take,hm];by_cases h:k≤O.length
      ·rw [Nat.min_eq_left h]
      ·rw [Nat.min_eq_right (by omega),List.take_of_length_le (by rw [List.length_map];omega),List.take_of_length_le (by rw [List.length_map];omega)]
     have hmS:m≤S.length:=by omega
     clear hOb hO spF hol hval hpm hOl spP spV;generalize O.length=n at *;refine W.loopR (fun mm st=>∃ (j:Nat),j≤m∧mm=m-j∧st=⟨[(15,.osl 90 0 0 m n),(64,.osl 90 0 0 m n),(65,.int .i64 (m:Nat)),(66,.int .i64 (j:Nat))],[(90,[.rows 5 (fndRows S) (some [])])],[90]⟩)
      m _ ⟨0,by omega,by omega,rfl⟩ gY ?_
     rintro mm st ⟨j,hj,rfl,rfl⟩;refine gT (fun hb=>?_) fun hb=>?_
     ·have hlt:j<S.length:=by omega
      have hg:=fndRows_get hlt;have hgs:S[j]?=some S[j]:=List.getElem?_eq_getElem hlt;have hst:=hSt _ (List.getElem_mem hlt);generalize hf:S[j]=f at *;have spC:=cloneSteps (stpRows f.p.steps) (stpRows_sz _) (stpRows_in _) (by rw [stpRows_len];omega);have hsl:=stpRows_len f.p.steps;have hnf:=stpRows_flat f.p.steps;refine g ?_;refine gCA [] [(5,150)] [] spC ?_;(conv=>whnf);rw [stpRows_ren,forceR_eq];(conv=>whnf);refine g ?_;refine ⟨_,_,?_,⟨j+1,by omega,rfl,rfl⟩,Ref.le (mp:=[(90,90)]) (bo:=[150]) (gs:=[]) (LeG.mq (.cons 90 (b1:=.rows 5 (fndRows S) (some [])) rfl rfl (fnd_set_lent (f:=f) (j:=j) (by simp) hgs rfl rfl) rfl .nil))⟩;omega
     ·have hje:j=m:=by omega
      subst hje;refine gGo ?_;refine W.leG (mp:=[]) (bo:=[90]) (st':=⟨[(10,.sl (fndRows (S.take k)) false),(11,.int .i64 0)],[],[]⟩)
       (LeG.mk' rfl rfl rfl ⟨⟨_,Lent.oslF 90 0 0 j n 5 _ _ rfl rfl (by rw [fndRows_len];exact hS.symm) (fndRows_pr _ _),by rw [hfz];rfl⟩,⟨_,.refl _,rfl⟩,trivial⟩ .nil rfl rfl (by rw [hK];rfl)) ?_
      (refine gM ?_;conv=>whnf);exact ret0 rfl rfl rfl
   ·rw [if_neg he];refine gEn env Tryz.func20 fun Γ hN hK hML=>?_;exact gR
  ·rw [if_neg hq];refine gEn env Tryz.func20 fun Γ hN hK hML=>?_;exact gR
 ·rw [if_neg hk];by_cases h0:k<0
  ·refine gEn env Tryz.func20 fun Γ hN hK hML=>?_;exact gR
  ·refine gEn env Tryz.func20 fun Γ hN hK hML=>?_;exact gR
end Go.Sx.Sp
