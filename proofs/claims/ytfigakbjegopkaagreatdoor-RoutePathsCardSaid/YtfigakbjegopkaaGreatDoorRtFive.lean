/- Routes with their reports, in order. -/
import Derived.Test.YtfigakbjegopkaaGreatDoorRtFour
import Derived.Test.YtfigakbjegopkaaGreatDoorJFour
import Derived.Test.YtfigakbjegopkaaGreatDoorJSeven
import Derived.Test.YtfigakbjegopkaaGreatDoorJSix
import Derived.Test.YtfigakbjegopkaaGreatDoorSxFour
set_option linter.unusedVariables false
set_option linter.unusedSimpArgs false
namespace Go.Sx.Sp
open Go Go.Sx Go.Proofs Go.Sort
attribute [local irreducible] GoodW famL
def rteOf (l:List Table) (p:Pth):Rte:=⟨p,(repE l p).1⟩
def cR (l:List Table) (a b:Pth):Int:=rteC (rteOf l a) (rteOf l b)
theorem TotC.or {α:Type}{c1 c2:α→α→Int}(h1:∀ a b,c1 a b<0↔0<c1 b a) (h2:∀ a b d,c1 a b<0→c1 b d<0→c1 a d<0) (h3:∀ a b d,c1 a b=0→c1 b d<0→c1 a d<0) (h4:∀ a b d,c1 a b<0→c1 b d=0→c1 a d<0) (h5:∀ a b d,c1 a b=0→c1 b d=0→c1 a d=0)
  (h6:∀ a,c1 a a=0) (h:TotC c2):TotC fun a b=>if c1 a b=0 then c2 a b else c1 a b:=by
 refine ⟨fun a b=>?_,fun a b=>?_,fun a b d=>?_⟩
 ·constructor
  ·intro e
   by_cases h0:c1 a b=0
   ·simp only [h0,if_true] at e;exact (h.zero a b).1 e
   ·simp only [h0,if_false] at e
  ·rintro rfl
   simp only [h6,if_true];exact (h.zero a a).2 rfl
 ·have ha:=h1 a b
  have hb:=h1 b a
  by_cases h0:c1 a b=0
  ·have h0':c1 b a=0:=by omega
   simp only [h0,h0',if_true];exact h.anti a b
  ·have h0':¬ c1 b a=0:=by omega
   simp only [h0,h0',if_false];exact ha
 ·intro e1 e2
  by_cases g1:c1 a b=0
  ·simp only [g1,if_true] at e1
   by_cases g2:c1 b d=0
   ·simp only [g2,if_true] at e2
    simp only [h5 a b d g1 g2,if_true]
    exact h.trans a b d e1 e2
   ·simp only [g2,if_false] at e2
    have g3:=h3 a b d g1 e2
    simp only [show ¬ c1 a d=0 by omega,if_false];exact g3
  ·simp only [g1,if_false] at e1
   by_cases g2:c1 b d=0
   ·have g3:=h4 a b d e1 g2
    simp only [show ¬ c1 a d=0 by omega,if_false];exact g3
   ·simp only [g2,if_false] at e2
    have g3:=h2 a b d e1 e2
    simp only [show ¬ c1 a d=0 by omega,if_false];exact g3
theorem TotC.num {α:Type}{c2:α→α→Int}(f:α→Int) (h:TotC c2):TotC fun a b=>if cmpJ (f a) (f b)=0 then c2 a b else cmpJ (f a) (f b):=by
 refine TotC.or (c1:=fun a b=>cmpJ (f a) (f b)) ?_ ?_ ?_ ?_ ?_ ?_ h<;>intros<;>simp only [cmpJ] at *<;>(repeat' split at *)<;>first | omega | (constructor<;>omega) | rfl
theorem cR_eq (l:List Table) (a b:Pth):cR l a b=if cmpJ (repE l a).1.lost (repE l b).1.lost=0 then (if cmpJ (repE l a).1.most (repE l b).1.most=0 then (if cmpJ (a.steps.length:Nat) (b.steps.length:Nat)=0 then ordC a b else cmpJ (a.steps.length:Nat) (b.steps.length:Nat)) else cmpJ (repE l a).1.most (repE l b).1.most) else cmpJ (repE l a).1.lost (repE l b).1.lost:=by
 unfold cR rteC rteOf
 simp only [orL]
 by_cases h:ordC a b=0<;>simp [h]
theorem cR_tot (l:List Table):TotC (cR l):=by
 have h:=TotC.num (fun p:Pth=>(repE l p).1.lost) (TotC.num (fun p:Pth=>(repE l p).1.most) (TotC.num (fun p:Pth=>((p.steps.length:Nat):Int)) ordC_tot))
 have e:cR l=_:=funext fun a=>funext fun b=>cR_eq l a b
 rw [e]
 exact h
theorem insL_ok {α:Type}{c:α→α→Int}(h:TotC c):∀ (ps Q:List α),AscC c Q→ps.Nodup→(∀ p∈ps,p∉Q)→AscC c (ps.foldl (insC c) Q)∧∀ x,x∈ps.foldl (insC c) Q↔x∈Q∨x∈ps
 | [],Q,hQ,_,_=>⟨hQ,by simp⟩
 | p::ps,Q,hQ,hn,hd=>by
  rw [List.foldl_cons]
  obtain ⟨h1,h2⟩:=List.nodup_cons.1 hn
  have hf:hasC c Q p=false:=by
   cases hb:hasC c Q p with
   | false=>rfl
   | true=>exact absurd (hasC_mem h hb) (hd p (by simp))
  have:=insL_ok h ps (insC c Q p) (insC_asc h hQ hf) h2 fun x hx hm=>by
   rcases insC_mem.1 hm with hm | hm
   ·exact hd x (by simp [hx]) hm
   ·subst hm;exact h1 hx
  refine ⟨this.1,fun x=>?_⟩
  rw [this.2 x,insC_mem,List.mem_cons,or_assoc]
theorem insL_sort {α:Type}{c:α→α→Int}(h:TotC c) {ps:List α}(hn:ps.Nodup):ps.foldl (insC c) []=sortBy c ps:=by
 have h1:=insL_ok h ps [] List.Pairwise.nil hn (by simp)
 refine ascC_ext h h1.1 (sortBy_asc h hn) fun x=>?_
 rw [h1.2 x,sortBy_mem];simp
theorem insL_len {α:Type}(c:α→α→Int):∀ (ps Q:List α),(ps.foldl (insC c) Q).length=Q.length+ps.length
 | [],Q=>by simp
 | p::ps,Q=>by rw [List.foldl_cons,insL_len c ps,insC_len,List.length_cons];omega
theorem findP_nodup (l:List Table) (E:List (List Int)) (from_ dst:Int) (most enough:Nat):(findP l E from_ dst most enough).Nodup:=by
 by_cases e:from_=dst
 ·unfold findP;rw [if_pos e];simp
 ·rw [findP_eq e]
  refine (sortBy_perm _ _).nodup_iff.2 ?_
  exact (routesL_nodup l E from_ dst most).sublist (List.take_sublist _ _)
theorem pathsM_nodup (l:List Table) (E:List (List Int)) (from_ dst steps:Int):(pathsM l E from_ dst steps).1.Nodup:=by
 unfold pathsM
 split
 ·split
  ·exact findP_nodup _ _ _ _ _ _
  ·simp
 ·simp
theorem pathsM_len (l:List Table) (E:List (List Int)) (from_ dst steps:Int):(pathsM l E from_ dst steps).1.length≤1024:=by
 unfold pathsM
 split
 ·split
  ·rename_i h;exact h
  ·simp
 ·simp
def topM (l:List Table) (E:List (List Int)) (from_ dst steps k:Int):List Pth×Int:=if 0≤k∧k≤1024 then (if (pathsM l E from_ dst steps).2=0 then ((sortBy (cR l) (pathsM l E from_ dst steps).1).take k.toNat,0) else ([],(pathsM l E from_ dst steps).2)) else ([],2)
def rtsOf (l:List Table) (ps:List Pth):List Rte:=ps.map (rteOf l)
theorem rtsOf_len (l:List Table) (ps:List Pth):(rtsOf l ps).length=ps.length:=by simp [rtsOf]
set_option maxHeartbeats 1000000 in
theorem sortRoutes_spec (l:List Table) (ps:List Pth) (hn:ps.length<4611686018427387904):Spec Tryz.prog 63 [.osl 0 0 0 (rteRows (rtsOf l ps)).length (rteRows (rtsOf l ps)).length,.fn 17 []] [(0,.rows 6 (rteRows (rtsOf l ps)) (some []))] (.tup []) [(0,.rows 6 (rteRows (rtsOf l (sortBy (cR l) ps))) (some []))]:=by
 have h:=sortFunc_spec Tryz.sortRoute 6 (by decide) Tryz.isAgg64 Tryz.sizeOf64 (fun p=>(rteOf l p).row) (fun _=>rfl) (cR l) (cR_tot l).swo (cR_tot l).tot 17 [] (fun u hu=>by cases hu) (fun a b=>cmpRteQ_spec (rteOf l a) (rteOf l b)) ps hn
 have e:∀ qs:List Pth,rteRows (rtsOf l qs)=qs.map fun p=>(rteOf l p).row:=fun qs=>by unfold rteRows rtsOf;rw [List.map_map];rfl
 rw [e,e]
 exact h
theorem rteRows_pr (l:List Rte) (ks:Option (List Nat)):pureRows (rteRows l) ks:=.inr (by
 unfold rteRows
 rw [List.all_eq_true]
 intro r hr
 obtain ⟨c,_,rfl⟩:=List.mem_map.1 hr
 rfl)
set_option maxHeartbeats 4000000 in
theorem first33_spec (l:List Table) (ps:List Pth) (k:Nat) (hn:ps.length≤1000000) (hk:k≤1000000):Spec Tryz.prog 30 [.osl 0 0 0 (rteRows (rtsOf l ps)).length (rteRows (rtsOf l ps)).length,.int .i64 (k:Nat),.fn 17 []] [(0,.rows 6 (rteRows (rtsOf l ps)) (some []))] (.osl 0 0 0 (min k ps.length) ps.length) [(0,.rows 6 (rteRows (rtsOf l (sortBy (cR l) ps))) (some []))]:=by
 have spS:=sortRoutes_spec l ps (by omega)
 have hl1:(rteRows (rtsOf l ps)).length=ps.length:=by rw [rteRows_len,rtsOf_len]
 have hl2:(rteRows (rtsOf l (sortBy (cR l) ps))).length=ps.length:=by rw [rteRows_len,rtsOf_len,sortBy_len]
 rw [hl1] at spS ⊢
 refine gEn env Tryz.func30 fun Γ hN hK hML=>?_
 (refine gGo ?_;intros)
 (refine ⟨_,_,_,callG [(0,0)] [] [] rfl rfl rfl (by kernel_rfl) (spS) (by repeat' (first | exact trivial | exact Lent.refl _ | exact Lent.norm _ | exact Lent.whole rfl rfl (by first | rfl | exact List.length_append.symm | exact hlenR | simp) rfl (by first | exact .inl rfl | exact .inr rfl) | apply And.intro)) rfl ⟨rfl,rfl,rfl,rfl,rfl,by repeat' (first | exact trivial | rfl | apply And.intro),rfl,rfl⟩,?_⟩;conv=>whnf)
 (refine gGo ?_;intros)
 have hm:(min (k:Int) (ps.length:Int)).toNat=min k ps.length:=by omega
 refine ⟨⟨by omega,(show (0:Int)≤min (k:Int) (ps.length:Int) by omega),(show min (k:Int) (ps.length:Int)≤ps.length by omega)⟩,?_⟩
 conv=>whnf
 (refine gGo ?_;intros)
 (refine gM ?_;conv=>whnf)
 exact retH rfl (Less.of_eq (by show V.osl 0 0 0 ((min (k:Int) (ps.length:Int)).toNat-0) ps.length=_;rw [hm];rfl)) rfl rfl rfl ⟨rfl,rfl,trivial⟩
theorem take_rte (l:List Table) (S:List Pth) (k:Nat):((rteRows (rtsOf l S)).drop 0).take (min k S.length)=rteRows (rtsOf l (S.take k)):=by
 unfold rteRows rtsOf
 rw [List.drop_zero,List.map_take,List.map_take]
 have:(List.map Rte.row (List.map (rteOf l) S)).length=S.length:=by simp
 by_cases h:k≤S.length
 ·rw [Nat.min_eq_left h]
 ·rw [Nat.min_eq_right (by omega),List.take_of_length_le (by omega),List.take_of_length_le (by omega)]
set_option maxHeartbeats 8000000 in
theorem top33_spec (l:List Table) (E:List (List Int)) (from_ dst steps k:Int) (hs:∀ t∈l,SmallT t) (h11:∀ r∈E,Rel11 r) (hE:E.length≤1000000):Spec Tryz.prog 14 [.sl (tblRows l) false,.sl (relRows E) false,.int .i64 from_,.int .i64 dst,.int .i64 steps,.int .i64 k] [] (.tup [.sl (rteRows (rtsOf l (topM l E from_ dst steps k).1)) false,.int .i64 (topM l E from_ dst steps k).2]) []:=by
 have spP:=paths33_spec l E from_ dst steps hs h11 hE
 have hpl:=pathsM_len l E from_ dst steps
 unfold topM
 by_cases hk:0≤k∧k≤1024
 ·rw [if_pos hk]
  obtain ⟨k,rfl⟩:∃ n:Nat,k=n:=⟨k.toNat,by omega⟩
  rw [Int.toNat_natCast]
  generalize pathsM l E from_ dst steps=pe at *
  obtain ⟨ps,e⟩:=pe
  simp only at hpl spP ⊢
  have hpr:=pthRows_len ps
  by_cases he:e=0
  ·subst he
   rw [if_pos rfl]
   refine gEn env Tryz.func14 fun Γ hN hK hML=>?_
   (refine gGo ?_;intros)
   (refine gPC (spP) ?_;conv=>whnf)
   (refine gGo ?_;intros)
   refine W.ownNil 16 90 6 rfl rfl ?_
   refine W.loopG (fun m st=>∃ j:Nat,j≤ps.length∧m=ps.length-j∧st=⟨[(0,.sl (tblRows l) false),(5,.int .i64 (k:Nat)),(16,.osl 90 0 0 (rteRows (rtsOf l (ps.take j))).length (rteRows (rtsOf l (ps.take j))).length),(39,.sl (pthRows ps) false),(40,.int .i64 (pthRows ps).length),(41,.int .i64 (j:Nat))],[(90,[.rows 6 (rteRows (rtsOf l (ps.take j))) (some [])])],[90]⟩)
    ps.length _ ⟨0,by omega,by omega,rfl⟩ ⟨[(90,90)],[],[],.mq (.ci 90 .nil)⟩ ?_
   rintro m st ⟨j,hj,rfl,rfl⟩
   have hrl:(rteRows (rtsOf l (ps.take j))).length=j:=by rw [rteRows_len,rtsOf_len,List.length_take];omega
   (refine gGo ?_;intros)
   refine boolRes_split (fun hb=>?_) (fun hb=>?_)<;>conv=>whnf
   ·have hlt:j<ps.length:=by omega
    have hg:=pthRows_get hlt
    have hsn:rteRows (rtsOf l (ps.take (j+1)))=rteRows (rtsOf l (ps.take j))++[(rteOf l ps[j]).row]:=by
     unfold rteRows rtsOf
     rw [List.take_succ_eq_append_getElem hlt,List.map_append,List.map_append];rfl
    have spR:=report_spec l ps[j]
    have hro:(rteOf l ps[j]).row=[.int .i64 ps[j].start,.sl (stpRows ps[j].steps) false,.int .i64 (repE l ps[j]).1.rows,.int .i64 (repE l ps[j]).1.lost,.int .i64 (repE l ps[j]).1.most,.sl (intRows .i64 (repE l ps[j]).1.unused) false]:=rfl
    rw [hro] at hsn
    clear hro
    generalize repE l ps[j]=rp at *
    generalize ps[j]=p at *
    have hsl2:(rteRows (rtsOf l (ps.take (j+1)))).length=(rteRows (rtsOf l (ps.take j))).length+1:=by rw [hsn];simp
    (refine gGo ?_;intros)
    refine rowAt_of (r:=p.row) (by simpa using hg) ?_
    conv=>whnf
    (refine gGo ?_;intros)
    (refine gPC (spR) ?_;conv=>whnf)
    (refine gGo ?_;intros)
    refine ⟨⟨rowsSz_cons rfl rowsSz_nil,rfl⟩,fitsN (n:=(rteRows (rtsOf l (ps.take j))).length+1) (b:=80) (by omega) (by omega),.inl ⟨rfl,rfl,?_⟩⟩
    conv=>whnf
    (refine gGo ?_;intros)
    exact ⟨ps.length-(j+1),_,by omega,⟨j+1,by omega,rfl,rfl⟩,[(90,90)],[],[],LeG.mk' rfl rfl rfl (by rw [hsl2];exact (by repeat' (first | exact trivial | exact ⟨_,.refl _,rfl⟩ | apply And.intro))) (.cons 90 rfl rfl (.refl _) (by rw [hsn];rfl) .nil) rfl rfl (by rw [hK];rfl)⟩
   ·have hje:j=ps.length:=by omega
    have hmin:(min k ps.length)=min k ps.length:=rfl
    have spF:=first33_spec l ps k (by omega) (by omega)
    rw [hje,List.take_length]
    (refine gGo ?_;intros)
    (refine ⟨_,_,_,callG [(0,90)] [] [] rfl rfl rfl (by kernel_rfl) (spF) (by repeat' (first | exact trivial | exact Lent.refl _ | exact Lent.norm _ | exact Lent.whole rfl rfl (by first | rfl | exact List.length_append.symm | exact hlenR | simp) rfl (by first | exact .inl rfl | exact .inr rfl) | apply And.intro)) rfl ⟨rfl,rfl,rfl,rfl,rfl,by repeat' (first | exact trivial | rfl | apply And.intro),rfl,rfl⟩,?_⟩;conv=>whnf)
    (refine gGo ?_;intros)
    have hfz:=take_rte l (sortBy (cR l) ps) k
    rw [sortBy_len] at hfz
    refine W.leG (mp:=[]) (bo:=[90]) (st':=⟨[(12,.sl (rteRows (rtsOf l ((sortBy (cR l) ps).take k))) false),(13,.int .i64 0)],[],[]⟩)
     (LeG.mk' rfl rfl rfl ⟨⟨_,Lent.oslF 90 0 0 (min k ps.length) ps.length 6 _ _ rfl rfl (by rw [rteRows_len,rtsOf_len,sortBy_len]) (rteRows_pr _ _),by rw [hfz];rfl⟩,⟨_,.refl _,rfl⟩,trivial⟩ .nil rfl rfl (by rw [hK];rfl)) ?_
    (refine gM ?_;conv=>whnf)
    exact ret0 rfl rfl rfl
  ·rw [if_neg he]
   refine gEn env Tryz.func14 fun Γ hN hK hML=>?_
   (refine gGo ?_;intros)
   (refine gPC (spP) ?_;conv=>whnf)
   (refine gGr ?_;intros)
   exact ret0 rfl rfl rfl
 ·rw [if_neg hk]
  by_cases h0:k<0
  ·refine gEn env Tryz.func14 fun Γ hN hK hML=>?_
   (refine gGr ?_;intros)
   exact ret0 rfl rfl rfl
  ·refine gEn env Tryz.func14 fun Γ hN hK hML=>?_
   (refine gGr ?_;intros)
   exact ret0 rfl rfl rfl
set_option maxHeartbeats 16000000 in
theorem top33R_spec (l:List Table) (E:List (List Int)) (from_ dst steps k:Int) (h11:∀ r∈E,Rel11 r) (hE:E.length≤100):Spec Tryz.prog 15 [.sl (tblRows l) false,.sl (relRows E) false,.int .i64 from_,.int .i64 dst,.int .i64 steps,.int .i64 k] [] (.tup [.sl (rteRows (rtsOf l (topM l E from_ dst steps k).1)) false,.int .i64 (topM l E from_ dst steps k).2]) []:=by
 have spP:=paths33R_spec l E from_ dst steps h11 hE
 have hpl:=pathsM_len l E from_ dst steps
 have hpn:=pathsM_nodup l E from_ dst steps
 unfold topM
 by_cases hk:0≤k∧k≤1024
 ·rw [if_pos hk]
  obtain ⟨k,rfl⟩:∃ n:Nat,k=n:=⟨k.toNat,by omega⟩
  rw [Int.toNat_natCast]
  generalize pathsM l E from_ dst steps=pe at *
  obtain ⟨ps,e⟩:=pe
  simp only at hpl spP hpn ⊢
  have hpr:=pthRows_len ps
  by_cases he:e=0
  ·subst he
   rw [if_pos rfl]
   refine gEn env Tryz.func15 fun Γ hN hK hML=>?_
   (refine gGo ?_;intros)
   (refine gPC (spP) ?_;conv=>whnf)
   (refine gGo ?_;intros)
   refine W.loopG (fun m st=>∃ j:Nat,j≤ps.length∧m=ps.length-j∧st=⟨[(0,.sl (tblRows l) false),(5,.int .i64 (k:Nat)),(16,.sl (rteRows (rtsOf l ((ps.take j).foldl (insC (cR l)) []))) false),(41,.sl (pthRows ps) false),(42,.int .i64 (pthRows ps).length),(43,.int .i64 (j:Nat))],[],[]⟩)
    ps.length _ ⟨0,by omega,by omega,rfl⟩ ⟨[],[],[],LeG.mk' rfl rfl rfl ⟨⟨_,.refl _,rfl⟩,⟨_,.refl _,rfl⟩,⟨_,.norm _,rfl⟩,⟨_,.refl _,rfl⟩,⟨_,.refl _,rfl⟩,⟨_,.refl _,rfl⟩,trivial⟩ .nil rfl rfl (by rw [hK];rfl)⟩ ?_
   rintro m st ⟨j,hj,rfl,rfl⟩
   have hQl:=insL_len (cR l) (ps.take j) []
   rw [List.length_take] at hQl
   (refine gGo ?_;intros)
   refine boolRes_split (fun hb=>?_) (fun hb=>?_)<;>conv=>whnf
   ·have hlt:j<ps.length:=by omega
    have hg:=pthRows_get hlt
    have hsn:(ps.take (j+1)).foldl (insC (cR l)) []=insC (cR l) ((ps.take j).foldl (insC (cR l)) []) ps[j]:=by
     rw [List.take_succ_eq_append_getElem hlt,List.foldl_append];rfl
    generalize (ps.take j).foldl (insC (cR l)) []=Q at *
    have hrl:(rteRows (rtsOf l Q)).length=Q.length:=by rw [rteRows_len,rtsOf_len]
    have hQ2:Q.length≤1024:=by simp at hQl;omega
    have spR:=report32_spec l ps[j]
    generalize ps[j]=p at *
    have hple:=plcC_le (cR l) Q p Q.length
    refine gA ?_
    refine gC rfl ?_
    refine gF ?_
    conv=>whnf
    refine gA ?_
    refine gB ?_
    refine gA ?_
    (refine gE env hN (by kernel_rfl) ?_;conv=>whnf)
    (refine gGs ?_;intros)
    refine rowAt_of (r:=p.row) (by simpa using hg) ?_
    conv=>whnf
    (refine gGs ?_;intros)
    refine gA ?_
    (refine gE env hN (by kernel_rfl) ?_;conv=>whnf)
    (refine gGs ?_;intros)
    (refine gPC (spR) ?_;conv=>whnf)
    (refine gGs ?_;intros)
    refine gA ?_
    (refine gE env hN (by kernel_rfl) ?_;conv=>whnf)
    (refine gGs ?_;intros)
    refine W.leG (mp:=[]) (bo:=[21]) (st':=⟨[(0,.sl (tblRows l) false),(5,.int .i64 (k:Nat)),(16,.sl (rteRows (rtsOf l (Q))) false),(41,.sl (pthRows ps) false),(42,.int .i64 (pthRows ps).length),(43,.int .i64 (j:Nat)),(21,.ro (rteOf l p).row 0)],[],[]⟩)
     (LeG.mk' rfl rfl rfl (by repeat' (first | exact trivial | exact ⟨_,.refl _,rfl⟩ | exact ⟨_,.bp 21 0 6 (rteOf l p).row none rfl rfl (by simp [Rte.row]) (.inr rfl),rfl⟩ | apply And.intro)) .nil rfl rfl (by rw [hK];rfl)) ?_
    refine gA ?_
    (refine gE env hN (by kernel_rfl) ?_;conv=>whnf)
    (refine gGs ?_;intros)
    refine W.cut (fun z=>z=⟨[(0,.sl (tblRows l) false),(5,.int .i64 (k:Nat)),(16,.sl (rteRows (rtsOf l (Q))) false),(41,.sl (pthRows ps) false),(42,.int .i64 (pthRows ps).length),(43,.int .i64 (j:Nat)),(21,.ro (rteOf l p).row 0),(22,.int .i64 (plcC (cR l) Q p Q.length:Nat))],[],[]⟩) ?_ ?_
    ·(refine gGo ?_;intros)
     refine W.loopG (fun m st=>∃ i:Nat,i≤Q.length∧plcC (cR l) Q p Q.length=plcC (cR l) Q p i∧m=i∧st=⟨[(0,.sl (tblRows l) false),(5,.int .i64 (k:Nat)),(16,.sl (rteRows (rtsOf l (Q))) false),(41,.sl (pthRows ps) false),(42,.int .i64 (pthRows ps).length),(43,.int .i64 (j:Nat)),(21,.ro (rteOf l p).row 0),(22,.int .i64 (i:Nat))],[],[]⟩)
      Q.length _ ⟨Q.length,by omega,rfl,rfl,rfl⟩ ⟨[],[],[],LeG.mk' rfl rfl rfl (by rw [←hrl];exact (by repeat' (first | exact trivial | exact ⟨_,.refl _,rfl⟩ | apply And.intro))) .nil rfl rfl (by rw [hK];rfl)⟩ ?_
     rintro i st ⟨_,hi,hpe,rfl,rfl⟩
     cases i with
     | zero =>
      have h0:plcC (cR l) Q p 0=0:=rfl
      rw [hpe,h0]
      (refine gGo ?_;intros)
      exact ⟨_,rfl,.le (mp:=[]) (bo:=[]) (LeG.mq .nil)⟩
     | succ q =>
      have hq:q<Q.length:=by omega
      have hgq:(rteRows (rtsOf l Q))[q]?=some (rteOf l Q[q]).row:=by
       unfold rteRows rtsOf
       rw [List.getElem?_map,List.getElem?_map,List.getElem?_eq_getElem hq];rfl
      have hst:plcC (cR l) Q p (q+1)=if cR l p Q[q]<0 then plcC (cR l) Q p q else q+1:=by
       rw [plcC,List.getElem?_eq_getElem hq]
      have spC:=cmpRte33_spec (rteOf l p) (rteOf l Q[q])
      change Spec _ _ _ _ (.int .i64 (cR l p Q[q])) _ at spC
      generalize Q[q]=y at *
      generalize rteOf l p=xr at *
      generalize rteOf l y=yr at *
      (refine gGo ?_;intros)
      refine rowAt_of (r:=yr.row) (by rw [show (((q+1:Nat):Int)-1).toNat=q by omega];exact hgq) ?_
      conv=>whnf
      (refine gGo ?_;intros)
      (refine gPC (spC) ?_;conv=>whnf)
      (refine gGo ?_;intros)
      by_cases hc:cR l p y<0
      ·rw [if_pos hc] at hst
       (refine gGo ?_;intros)
       refine ⟨q,_,by omega,⟨q,by omega,by rw [hpe,hst],rfl,rfl⟩,[],[],[],LeG.mk' rfl rfl rfl (by rw [show (((q+1:Nat):Int)-1)=(q:Nat) by omega];exact (by repeat' (first | exact trivial | exact ⟨_,.refl _,rfl⟩ | apply And.intro))) .nil rfl rfl (by rw [hK];rfl)⟩
      ·rw [if_neg hc] at hst
       rw [hpe,hst]
       (refine gGo ?_;intros)
       exact ⟨_,rfl,.le (mp:=[]) (bo:=[]) (LeG.mq .nil)⟩
    ·rintro z rfl
     have hins:insC (cR l) Q p=Q.take (plcC (cR l) Q p Q.length)++p::Q.drop (plcC (cR l) Q p Q.length):=rfl
     rw [hins] at hsn
     clear hins
     generalize plcC (cR l) Q p Q.length=pl at *
     have hs1:List.drop (Int.toNat 0) (List.take ((pl:Int)).toNat (rteRows (rtsOf l Q)))=rteRows (rtsOf l (Q.take pl)):=by
      rw [Int.toNat_natCast]
      unfold rteRows rtsOf
      rw [←List.map_take,←List.map_take];rfl
     have hs2:List.drop ((pl:Int)).toNat (List.take (((rteRows (rtsOf l Q)).length:Nat):Int).toNat (rteRows (rtsOf l Q)))=rteRows (rtsOf l (Q.drop pl)):=by
      rw [Int.toNat_natCast,Int.toNat_natCast,List.take_length]
      unfold rteRows rtsOf
      rw [←List.map_drop,←List.map_drop]
     have hAl:(Q.take pl).length=pl:=by rw [List.length_take];omega
     have hBl:(Q.drop pl).length=Q.length-pl:=by rw [List.length_drop]
     (refine gGo ?_;intros)
     refine And.intro (rteRows_sz _) ?_
     rw [hs1]
     generalize Q.take pl=A at *
     generalize hB:Q.drop pl=B at *
     have hA2:(rteRows (rtsOf l A)).length=A.length:=by rw [rteRows_len,rtsOf_len]
     have hB2:(rteRows (rtsOf l B)).length=B.length:=by rw [rteRows_len,rtsOf_len]
     conv=>whnf
     (refine gGo ?_;intros)
     refine ⟨rteRows_sz _,fitN (n:=(rteRows (rtsOf l A)).length) (b:=80) (by omega) (by omega),?_⟩
     refine Or.inl ?_
     conv=>whnf
     (refine gGo ?_;intros)
     refine ⟨⟨rowsSz_cons rfl rowsSz_nil,rfl⟩,fitN (n:=(rteRows (rtsOf l A)).length+1) (b:=80) (by omega) (by omega),.inl ⟨rfl,rfl,?_⟩⟩
     conv=>whnf
     (refine gGo ?_;intros)
     refine And.intro (rteRows_sz _) ?_
     rw [hs2]
     conv=>whnf
     (refine gGo ?_;intros)
     refine ⟨⟨rteRows_sz _,by simp⟩,fitN (n:=(rteRows (rtsOf l A)).length+1+(rteRows (rtsOf l B)).length) (b:=80) (by omega) (by omega),.inl ⟨rfl,rfl,?_⟩⟩
     conv=>whnf
     (refine gGo ?_;intros)
     have hrn:((rteRows (rtsOf l A)++[(rteOf l p).row])++rteRows (rtsOf l B))=rteRows (rtsOf l (A++p::B)):=by simp [rteRows,rtsOf]
     refine ⟨ps.length-(j+1),_,by omega,⟨j+1,by omega,rfl,rfl⟩,[],[75],[],LeG.mk' rfl rfl rfl (by repeat' (first | exact trivial | exact ⟨_,.refl _,rfl⟩ | (rw [hsn,←hrn];exact ⟨_,Lent.whole rfl rfl (by simp;omega) rfl (by first | exact .inl rfl | exact .inr rfl),rfl⟩) | apply And.intro)) .nil rfl rfl (by rw [hK];rfl)⟩
   ·have hje:j=ps.length:=by omega
    rw [hje,List.take_length,insL_sort (cR_tot l) hpn]
    have hl2:(rteRows (rtsOf l (sortBy (cR l) ps))).length=ps.length:=by rw [rteRows_len,rtsOf_len,sortBy_len]
    have hfz:=take_rte l (sortBy (cR l) ps) k
    have hfz2:rteRows (rtsOf l ((sortBy (cR l) ps).take k))=List.drop (Int.toNat 0) (List.take (min (k:Int) ((rteRows (rtsOf l (sortBy (cR l) ps))).length:Nat)).toNat (rteRows (rtsOf l (sortBy (cR l) ps)))):=by
     have hm:(min (k:Int) ((rteRows (rtsOf l (sortBy (cR l) ps))).length:Nat)).toNat=min k (sortBy (cR l) ps).length:=by rw [sortBy_len];omega
     rw [hm,←hfz,List.drop_zero];rfl
    rw [hfz2]
    have hsz:=rteRows_sz (rtsOf l (sortBy (cR l) ps))
    clear hfz hfz2
    generalize rteRows (rtsOf l (sortBy (cR l) ps))=RS at *
    (refine gGo ?_;intros)
    refine ⟨⟨by omega,(show (0:Int)≤min (k:Int) (RS.length:Int) by omega),(show min (k:Int) (RS.length:Int)≤RS.length by omega)⟩,hsz,?_⟩
    conv=>whnf
    (refine gGr ?_;intros)
    exact ret0 rfl rfl rfl
  ·rw [if_neg he]
   refine gEn env Tryz.func15 fun Γ hN hK hML=>?_
   (refine gGo ?_;intros)
   (refine gPC (spP) ?_;conv=>whnf)
   (refine gGr ?_;intros)
   exact ret0 rfl rfl rfl
 ·rw [if_neg hk]
  by_cases h0:k<0
  ·refine gEn env Tryz.func15 fun Γ hN hK hML=>?_
   (refine gGr ?_;intros)
   exact ret0 rfl rfl rfl
  ·refine gEn env Tryz.func15 fun Γ hN hK hML=>?_
   (refine gGr ?_;intros)
   exact ret0 rfl rfl rfl
set_option maxHeartbeats 8000000 in
theorem sameRtes_spec (a b:List Rte):Spec Tryz.prog 16 [.sl (rteRows a) false,.sl (rteRows b) false] [] (.bool (decide (a=b))) []:=by
 have hla:=rteRows_len a
 have hlb:=rteRows_len b
 refine gEn env Tryz.func16 fun Γ hN hK hML=>?_
 by_cases e4:a.length=b.length
 ·(refine gGo ?_;intros)
  refine W.loopG (fun n st=>∃ k:Nat,k≤a.length∧a.take k=b.take k∧n=a.length-k∧st=⟨[(1,.sl (rteRows b) false),(12,.sl (rteRows a) false),(13,.int .i64 (rteRows a).length),(14,.int .i64 (k:Nat))],[],[]⟩)
   a.length _ ⟨0,by omega,by simp,by omega,rfl⟩ ⟨[],[],[],.mq .nil⟩ ?_
  rintro n st ⟨k,hk,htk,rfl,rfl⟩
  (refine gGo ?_;intros)
  refine boolRes_split (fun hb=>?_) (fun hb=>?_)<;>conv=>whnf
  ·have hlt:k<a.length:=by omega
   have hlt2:k<b.length:=by omega
   have hg1:=rteRows_get hlt
   have hg2:=rteRows_get hlt2
   have htk2:a[k]=b[k]→a.take (k+1)=b.take (k+1):=take_snoc htk hlt hlt2
   have hneq:a[k]≠b[k]→¬ (a=b):=fun h1 h2=>by subst h2;exact h1 rfl
   have spS:=samePath_spec a[k].p b[k].p
   have spT:=same_spec a[k].r b[k].r
   generalize a[k]=x at *
   generalize b[k]=y at *
   have hxy:x=y↔x.p=y.p∧x.r=y.r:=by cases x;cases y;simp
   (refine gGo ?_;intros)
   refine rowAt_of (r:=x.row) (by simpa using hg1) ?_
   conv=>whnf
   (refine gGo ?_;intros)
   refine rowAt_of (r:=y.row) (by simpa using hg2) ?_
   conv=>whnf
   (refine gGo ?_;intros)
   (refine gPC (spS) ?_;conv=>whnf)
   by_cases e6:x.p=y.p
   ·rw [decide_eq_true e6]
    (refine gGo ?_;intros)
    refine rowAt_of (r:=y.row) (by simpa using hg2) ?_
    conv=>whnf
    (refine gGo ?_;intros)
    (refine gPC (spT) ?_;conv=>whnf)
    by_cases e7:x.r=y.r
    ·rw [decide_eq_true e7]
     (refine gGo ?_;intros)
     refine ⟨a.length-(k+1),_,by omega,⟨k+1,by omega,htk2 (hxy.2 ⟨e6,e7⟩),rfl,rfl⟩,[],[6],[],LeG.mq .nil⟩
    ·rw [decide_eq_false e7,decide_eq_false (hneq fun h=>e7 (hxy.1 h).2)]
     (refine gGo ?_;intros)
     (refine gGr ?_;intros)
     exact ret0 rfl rfl rfl
   ·rw [decide_eq_false e6,decide_eq_false (hneq fun h=>e6 (hxy.1 h).1)]
    (refine gGo ?_;intros)
    (refine gGr ?_;intros)
    exact ret0 rfl rfl rfl
  ·have hke:k=a.length:=by omega
   have huu:a=b:=by rw [hke,List.take_length,e4,List.take_length] at htk;exact htk
   rw [decide_eq_true huu]
   (refine gGr ?_;intros)
   exact ret0 rfl rfl rfl
 ·have hne:¬ (a=b):=fun h=>e4 (by rw [h])
  rw [decide_eq_false hne]
  (refine gGo ?_;intros)
  (refine gGr ?_;intros)
  exact ret0 rfl rfl rfl
def aw33C:Column:=⟨[],[⟨false,[120]⟩]⟩
def aw33L:List Table:=[⟨1,[],[aw33C]⟩,⟨2,[],[aw33C,aw33C]⟩]
def aw33E:List (List Int):=[[1,0,2,0,1,0,0,1,1,0,0],[1,0,2,1,1,0,0,1,1,0,0]]
def aw33A:Pth:=⟨2,[⟨2,0,1,0⟩]⟩
def aw33B:Pth:=⟨2,[⟨2,1,1,0⟩]⟩
def aw33P:Pth:=⟨1,[⟨1,0,2,0⟩]⟩
def aw33Q:Pth:=⟨1,[⟨1,0,2,1⟩]⟩
def aw33R:Rep:=⟨1,0,1,[0]⟩
theorem aw33v:listB aw33L=true:=by decide +kernel
theorem aw33e:edges aw33L=aw33E:=by decide +kernel
theorem aw33w1:walkR aw33L aw33E 1 2 ⟨⟨2,[]⟩,2⟩ []=[aw33A,aw33B]:=by decide +kernel
theorem aw33w2:walkR aw33L aw33E 2 1 ⟨⟨1,[]⟩,1⟩ []=[aw33P,aw33Q]:=by decide +kernel
theorem find_walk {l:List Table}{E:List (List Int)}{from_ dst:Int}{k:Nat}{ps:List Pth}(h0:0≤dst) (hne:from_≠dst) (h:walkR l E dst k ⟨⟨from_,[]⟩,from_⟩ []=ps) (hl:ps.length≤1024):findP l E from_ dst k 1024=ps:=by
 rcases walkR_find (l:=l) (E:=E) (k:=k) h0 hne with ⟨_,_,h3⟩ | ⟨h1,_⟩
 ·rw [←h3,h]
 ·rw [h] at h1;omega
theorem paths_of {l:List Table}{E:List (List Int)}{from_ dst:Int}{k:Nat}{ps:List Pth}(hr:routeE l from_ dst k=0) (h:findP l E from_ dst k 1024=ps) (hl:ps.length≤1024):pathsM l E from_ dst k=(ps,0):=by
 unfold pathsM
 rw [if_pos hr,Int.toNat_natCast,h,if_pos hl]
theorem aw33p1:pathsM aw33L aw33E 2 1 (2:Nat)=([aw33A,aw33B],0):=paths_of (by decide +kernel) (find_walk (by decide) (by decide) aw33w1 (by decide)) (by decide)
theorem aw33p2:pathsM aw33L aw33E 1 2 (1:Nat)=([aw33P,aw33Q],0):=paths_of (by decide +kernel) (find_walk (by decide) (by decide) aw33w2 (by decide)) (by decide)
theorem aw33r1:(repE aw33L aw33P).1=aw33R:=by decide +kernel
theorem aw33r2:(repE aw33L aw33Q).1=aw33R:=by decide +kernel
theorem aw33s:[aw33P,aw33Q].foldl (insC (cR aw33L)) []=[aw33P,aw33Q]:=by
 have h1:insC (cR aw33L) [] aw33P=[aw33P]:=rfl
 have h2:cR aw33L aw33Q aw33P=1:=by
  unfold cR rteOf
  rw [aw33r1,aw33r2]
  decide +kernel
 rw [List.foldl_cons,List.foldl_cons,List.foldl_nil,h1]
 show List.take (plcC (cR aw33L) [aw33P] aw33Q 1) [aw33P]++aw33Q::List.drop (plcC (cR aw33L) [aw33P] aw33Q 1) [aw33P]=_
 have h3:plcC (cR aw33L) [aw33P] aw33Q 1=1:=by
  unfold plcC
  show (if cR aw33L aw33Q aw33P<0 then plcC (cR aw33L) [aw33P] aw33Q 0 else 0+1)=1
  rw [h2,if_neg (by decide)]
 rw [h3]
 rfl
theorem aw33t:rtsOf aw33L (topM aw33L aw33E 1 2 (1:Nat) (5:Nat)).1=[⟨aw33P,aw33R⟩,⟨aw33Q,aw33R⟩]∧(topM aw33L aw33E 1 2 (1:Nat) (5:Nat)).2=0:=by
 have hs:sortBy (cR aw33L) [aw33P,aw33Q]=[aw33P,aw33Q]:=by rw [←insL_sort (cR_tot aw33L) (by decide)];exact aw33s
 have ht:topM aw33L aw33E 1 2 (1:Nat) (5:Nat)=([aw33P,aw33Q],0):=by
  unfold topM
  rw [if_pos (by decide),aw33p2,if_pos rfl,hs];rfl
 rw [ht]
 refine ⟨?_,rfl⟩
 show [rteOf aw33L aw33P,rteOf aw33L aw33Q]=_
 unfold rteOf
 rw [aw33r1,aw33r2]
set_option maxHeartbeats 8000000 in
theorem awake33_spec:Spec Tryz.prog 5 [] [] (.bool true) []:=by
 have s1:=edges_spec aw33L aw33v (by decide)
 have h11:∀ r∈aw33E,Rel11 r:=by rw [←aw33e];exact edges_11 aw33L
 rw [aw33e] at s1
 have s2:=paths33_spec aw33L aw33E 2 1 (2:Nat) (listB_small aw33v) h11 (by decide)
 rw [aw33p1] at s2
 have s3:=top33_spec aw33L aw33E 1 2 (1:Nat) (5:Nat) (listB_small aw33v) h11 (by decide)
 rw [aw33t.1,aw33t.2] at s3
 have s4:=cmpRte_spec ⟨aw33P,aw33R⟩ ⟨aw33Q,aw33R⟩
 rw [show rteC ⟨aw33P,aw33R⟩ ⟨aw33Q,aw33R⟩=-1 by decide +kernel] at s4
 refine gEn env Tryz.func5 fun Γ hN hK hML=>?_
 (refine gGo ?_;intros)
 (refine gPC (s1) ?_;conv=>whnf)
 (refine gGo ?_;intros)
 (refine gPC (s2) ?_;conv=>whnf)
 (refine gGo ?_;intros)
 (refine gPC (s1) ?_;conv=>whnf)
 (refine gGo ?_;intros)
 (refine gPC (s3) ?_;conv=>whnf)
 (refine gGo ?_;intros)
 (refine gPC (s4) ?_;conv=>whnf)
 (refine gGr ?_;intros)
 exact ret0 rfl rfl rfl
end Go.Sx.Sp
