/- Candidate paths, and joining them. -/
import Derived.Test.YthlokmbefpjmgaaGreatDoorExFour
import Derived.Test.YthlokmbefpjmgaaGreatDoorRtFour
import Derived.Test.YthlokmbefpjmgaaGreatDoorSxFive
import Derived.Test.YthlokmbefpjmgaaGreatDoorExThree
import Derived.Test.YthlokmbefpjmgaaGreatDoorExOne
import Derived.Test.YthlokmbefpjmgaaGreatDoorSxFour
set_option linter.unusedVariables false
set_option linter.unusedSimpArgs false
namespace Go.Sx.Sp
open Go Go.Sx Go.Proofs Go.Sort
attribute [local irreducible] GoodW famL
set_option maxHeartbeats 1000000 in
theorem exValid_spec (q:Table):Spec Tryz.prog 17 [.agg q.row] [] (.int .i64 (exE q)) []:=by
 have sp:=valid_spec q;have hcl:=colRows_len q.cols;unfold exE;cases hv:validB q with
 | false =>
  rw [if_neg (by decide)];rw [hv] at sp;refine gEn env Tryz.func17 fun Γ hN hK hML=>?_;exact gR
 | true =>
  rw [if_pos rfl];rw [hv] at sp;by_cases h0:q.cols.length=0
  ·rw [if_pos (.inl h0)];refine gEn env Tryz.func17 fun Γ hN hK hML=>?_;exact gR
  ·by_cases h3:3<q.cols.length
   ·rw [if_pos (.inr h3)];refine gEn env Tryz.func17 fun Γ hN hK hML=>?_;exact gR
   ·rw [if_neg (by omega)];refine gEn env Tryz.func17 fun Γ hN hK hML=>?_;exact gR
theorem pthRows_nil {H:Nat→List Blk}{bo:List Nat}{out:List Pth}{id:Int}{ks:Option (List Nat)}:BLent H bo (.rows 2 (pthRows out++[[.int .i64 id,.nils]]) ks) (.rows 2 (pthRows (out++[⟨id,[]⟩])) (some [])):=by
 refine .rowsF _ _ _ _ (by simp [pthRows]) fun i r1 hi=>?_;rw [pthRows_snoc] at hi;by_cases e:i<(pthRows out).length
 ·rw [List.getElem?_append_left e] at hi;refine ⟨r1,by rw [List.getElem?_append_left e];exact hi,rfl,fun j v1 hj=>⟨v1,hj,.refl _,?_⟩⟩;unfold pthRows at hi;rw [List.getElem?_map,Option.map_eq_some_iff] at hi;obtain ⟨x,_,rfl⟩:=hi;cases j with
  | zero=>cases hj;exact ⟨rfl,rfl⟩
  | succ j=>cases j with
   | zero=>cases hj;exact ⟨rfl,rfl⟩
   | succ j=>simp [Pth.row] at hj
 ·have e2:i=(pthRows out).length:=by
   have:=(List.getElem?_eq_some_iff.1 hi).1;rw [List.length_append,List.length_singleton] at this;omega
  subst e2;rw [List.getElem?_append_right (Nat.le_refl _),Nat.sub_self] at hi;cases hi;refine ⟨[.int .i64 id,.nils],by rw [List.getElem?_append_right (Nat.le_refl _),Nat.sub_self];rfl,rfl,fun j v1 hj=>?_⟩;cases j with
  | zero=>cases hj;exact ⟨_,rfl,.refl _,rfl,rfl⟩
  | succ j=>cases j with
   | zero=>cases hj;exact ⟨_,rfl,.norm _,rfl,rfl⟩
   | succ j=>simp [Pth.row] at hj
theorem ascB_pw:∀ {l:List Table},ascB l=true→l.Pairwise fun a b=>a.id<b.id
 | [],_=>List.Pairwise.nil
 | [a],_=>List.pairwise_singleton _ _
 | a::b::l,h=>by
  have h:(decide (a.id<b.id)&&ascB (b::l))=true:=h;rw [Bool.and_eq_true,decide_eq_true_eq] at h;have ih:=ascB_pw h.2;rw [List.pairwise_cons];refine ⟨fun c hc=>?_,ih⟩;rcases List.mem_cons.1 hc with rfl | hc
  ·exact h.1
  ·have:=(List.pairwise_cons.1 ih).1 c hc;omega
theorem ascB_lt {l:List Table}(h:ascB l=true) (i j:Nat) (hi:i<l.length) (hj:j<l.length) (hij:i<j):l[i].id<l[j].id:=List.pairwise_iff_getElem.1 (ascB_pw h) i j hi hj hij
theorem pthRows_app (a b:List Pth):pthRows (a++b)=pthRows a++pthRows b:=by simp [pthRows]
set_option maxHeartbeats 16000000 in
theorem exPaths_spec (l:List Table) (E:List (List Int)) (steps:Int) (hs:∀ t∈l,SmallT t) (h11:∀ r∈E,Rel11 r) (hE:E.length≤1000000):Spec Tryz.prog 15 [.sl (tblRows l) false,.sl (relRows E) false,.int .i64 steps] [] (.tup [.sl (pthRows (exPathsM l E steps).1) false,.int .i64 (exPathsM l E steps).2]) []:=by
 have sp:=permitted_spec l;have hll:=tblRows_len l;have spN:=newWays_spec l E hs h11 hE;unfold exPathsM;cases hl:listB l with
 | false =>
  rw [if_neg (by decide)];rw [hl] at sp;refine gEn env Tryz.func15 fun Γ hN hK hML=>?_;exact gR
 | true =>
  rw [if_pos rfl];rw [hl] at sp;by_cases h0:0≤steps
  ·by_cases h4:steps≤4
   ·rw [if_pos ⟨h0,h4⟩];obtain ⟨n,rfl⟩:∃ n:Nat,steps=n:=⟨steps.toNat,by omega⟩
    rw [Int.toNat_natCast];have hasc:ascB l=true:=by unfold listB at hl;rw [Bool.and_eq_true] at hl;exact hl.1
    have hlt:=ascB_lt hasc;have hd:(l.map Table.id).Nodup:=by
     rw [List.nodup_iff_pairwise_ne,List.pairwise_map,List.pairwise_iff_getElem];intro i j hi hj hij e;have:=hlt i j hi hj hij;omega
    rw [←exOut_eq hd];generalize hX:exOut l E n l []=X;have hsort:∀ o:List Pth,o.length≤1024→_:=fun o ho=>sortPaths_spec o (by omega);have spW:=fun (a b:Int) (e:Nat) (he:e≤1000000)=>findW_spec l E a b n e hE (by omega) he;generalize waysM l (stpsE E)=M at *;refine gEn env Tryz.func15 fun Γ hN hK hML=>?_;(refine g ?_;intros);refine W.ownNil 9 91 2 rfl rfl ?_;refine W.loopG (fun m st=>∃ (i:Nat) (out:List Pth),i≤l.length∧X=exOut l E n (l.drop i) out∧out.length≤1024∧(i=0→out.length=0)∧m=l.length-i∧st=⟨[(0,.sl (tblRows l) false),(2,.int .i64 (n:Nat)),(8,.dmap (mkD (datES M))),(9,.osl 91 0 0 (pthRows (out)).length (pthRows (out)).length),(28,.sl (tblRows l) false),(29,.int .i64 (tblRows l).length),(30,.int .i64 (i:Nat))],[(91,[.rows 2 (pthRows (out)) (some [])])],[91]⟩)
     l.length _ ⟨0,[],by omega,by rw [List.drop_zero,hX],by simp,fun _=>rfl,by omega,rfl⟩ gX ?_
    rintro m st ⟨i,out,hi,hex,ho,hoz,rfl,rfl⟩;have hpl:=pthRows_len out;refine gT (fun hb=>?_) fun hb=>?_
    ·have hil:i<l.length:=by omega
     have hg:=tblRows_get hil;rw [List.drop_eq_getElem_cons hil] at hex;have hlta:=fun j (hj:j<l.length) (h:j<i)=>hlt j i hj hil h;generalize l[i]=a at *;refine g ?_;refine ⟨⟨rowsSz_cons rfl rowsSz_nil,rfl⟩,fitsN (n:=(pthRows out).length+1) (b:=32) (by omega) (by omega),.inl ⟨rfl,rfl,?_⟩⟩;(conv=>whnf);refine gGo ?_;intros;refine W.leG (mp:=[(91,91)]) (bo:=[11]) (st':=⟨[(0,.sl (tblRows l) false),(2,.int .i64 (n:Nat)),(8,.dmap (mkD (datES M))),(9,.osl 91 0 0 (pthRows ((out++[⟨a.id,[]⟩]))).length (pthRows ((out++[⟨a.id,[]⟩]))).length),(28,.sl (tblRows l) false),(29,.int .i64 (tblRows l).length),(30,.int .i64 (i:Nat)),(11,.ro a.row 0),(40,.sl (tblRows l) false),(41,.int .i64 (tblRows l).length),(42,.int .i64 (0:Nat))],[(91,[.rows 2 (pthRows ((out++[⟨a.id,[]⟩]))) (some [])])],[91]⟩)
      (LeG.mk' rfl rfl rfl (by rw [pthRows_snoc,List.length_append];repeat' (first | exact trivial | exact ⟨_,.refl _,rfl⟩ | exact ⟨_,.bp 11 0 3 a.row none rfl rfl (by simp [Table.row]) (.inr rfl),rfl⟩ | apply And.intro)) (.cons 91 rfl rfl pthRows_nil rfl .nil) rfl rfl (by rw [hK];rfl)) ?_
     have hex2:X=(exIn l E n a (l.drop 0) (out++[⟨a.id,[]⟩])).bind (exOut l E n (l.drop (i+1))):=by rw [List.drop_zero];exact hex
     have ho0:(out++[⟨a.id,[]⟩]:List Pth).length≤1025∧((out++[⟨a.id,[]⟩]:List Pth).length≤1024∨0=0∧0<i):=by
      rw [List.length_append,List.length_singleton];refine ⟨by omega,?_⟩;rcases Nat.eq_zero_or_pos i with h | h
      ·have:=hoz h;exact .inl (by omega)
      ·exact .inr ⟨rfl,h⟩
     generalize (out++[⟨a.id,[]⟩]:List Pth)=out1 at *;refine W.loopG (fun m st=>∃ (j:Nat) (out:List Pth),j≤l.length∧X=(exIn l E n a (l.drop j) out).bind (exOut l E n (l.drop (i+1)))∧(out.length≤1025∧(out.length≤1024∨j=0∧0<i))∧m=l.length-j∧st=⟨[(0,.sl (tblRows l) false),(2,.int .i64 (n:Nat)),(8,.dmap (mkD (datES M))),(9,.osl 91 0 0 (pthRows (out)).length (pthRows (out)).length),(28,.sl (tblRows l) false),(29,.int .i64 (tblRows l).length),(30,.int .i64 (i:Nat)),(11,.ro a.row 0),(40,.sl (tblRows l) false),(41,.int .i64 (tblRows l).length),(42,.int .i64 (j:Nat))],[(91,[.rows 2 (pthRows (out)) (some [])])],[91]⟩)
      l.length _ ⟨0,out1,by omega,hex2,ho0,by omega,rfl⟩ gX ?_
     clear ho0 hex2 hex;rintro m st ⟨j,out,hj,hex,⟨ho1,ho2⟩,rfl,rfl⟩;have hpl:=pthRows_len out;refine gT (fun hb=>?_) fun hb=>?_
     ·have hjl:j<l.length:=by omega
      have hg:=tblRows_get hjl;rw [List.drop_eq_getElem_cons hjl] at hex;have hb0:j=0→0<i→¬ a.id<l[j].id:=fun h1 h2 h3=>by
       subst h1;have:=hlta 0 hjl h2;omega
      generalize l[j]=b at *;rw [show exIn l E n a (b::l.drop (j+1)) out=if 1024<(if a.id<b.id then out++findP l E a.id b.id n (1024-out.length) else out).length then none else exIn l E n a (l.drop (j+1)) (if a.id<b.id then out++findP l E a.id b.id n (1024-out.length) else out) from rfl] at hex;refine g ?_;by_cases hab:a.id<b.id
      ·rw [if_pos hab] at hex;have hoe:out.length≤1024:=by
        rcases ho2 with h | ⟨h1,h2⟩
        ·exact h
        ·exact absurd hab (hb0 h1 h2)
       have sw:=spW a.id b.id (1024-out.length) (by omega);rw [show ((1024-out.length:Nat):Int)=1024-((pthRows out).length:Int) by omega] at sw;have hfl:=findP_len l E a.id b.id n (1024-out.length);have hapl:(out++findP l E a.id b.id n (1024-out.length)).length=out.length+(findP l E a.id b.id n (1024-out.length)).length:=List.length_append;generalize findP l E a.id b.id n (1024-out.length)=F at *;have hFl:=pthRows_len F;(refine g ?_;intros);refine ⟨⟨pthRows_sz _,rfl⟩,fitsN (n:=(pthRows out).length+(pthRows F).length) (b:=32) (by omega) (by omega),.inl ⟨rfl,rfl,?_⟩⟩;(conv=>whnf);refine gGo ?_;refine And.intro (List.length_append).symm fun _=>?_;(conv=>whnf);refine gT (fun hb=>?_) fun hb=>?_
       ·have hXn:X=none:=by (try dsimp only at hb);rw [hex,if_pos (by omega)];rfl
        rw [hXn];exact gR
       ·(try dsimp only at hb);rw [if_neg (by omega)] at hex
        refine gGo ?_;refine ⟨_,_,?_,⟨j+1,out++F,by omega,hex,⟨by omega,.inl (by omega)⟩,rfl,rfl⟩,[(91,91)],[],[],LeG.mk' rfl rfl rfl (by rw [pthRows_app,List.length_append];exact (by repeat' (first | exact trivial | exact ⟨_,.refl _,rfl⟩ | apply And.intro))) (.cons 91 rfl rfl (.refl _) (by rw [pthRows_app];rfl) .nil) rfl rfl (by rw [hK];rfl)⟩;omega
      ·rw [if_neg hab] at hex;refine gT (fun hb=>?_) fun hb=>?_
       ·have hXn:X=none:=by (try dsimp only at hb);rw [hex,if_pos (by omega)];rfl
        rw [hXn];exact gR
       ·(try dsimp only at hb);rw [if_neg (by omega)] at hex
        refine gGo ?_;intros;exact gZ ⟨j+1,out,by omega,hex,⟨by omega,.inl (by omega)⟩,rfl,rfl⟩
     ·have hje:j=l.length:=by omega
      have hex:X=exOut l E n (l.drop (i+1)) out:=by rw [hje,List.drop_length] at hex;exact hex
      refine gGo ?_;exact gZ ⟨i+1,out,by omega,hex,by omega,by omega,rfl,rfl⟩
    ·have hie:i=l.length:=by omega
     have hex:X=some out:=by rw [hie,List.drop_length] at hex;exact hex
     have spS:=sortPaths_spec out (by omega);have hsl:=pthRows_len (sortBy ordC out);rw [sortBy_len] at hsl;rw [hex];refine gGo ?_;(refine ⟨_,_,_,callG [(0,91)] [] [] rfl rfl rfl (by kernel_rfl) (spS) (by repeat' (first | exact trivial | exact Lent.refl _ | exact Lent.norm _ | exact Lent.whole rfl rfl (by first | rfl | exact List.length_append.symm | exact hlenR | simp) rfl (by first | exact .inl rfl | exact .inr rfl) | apply And.intro)) rfl ⟨rfl,rfl,rfl,rfl,rfl,by repeat' (first | exact trivial | rfl | apply And.intro),rfl,rfl⟩,?_⟩;conv=>whnf);refine gGo ?_;refine W.leG (mp:=[]) (bo:=[91]) (st':=⟨[(6,.sl (pthRows (sortBy ordC out)) false),(7,.int .i64 0)],[],[]⟩)
      (LeG.mk' rfl rfl rfl ⟨⟨_,Lent.whole rfl rfl (by omega) rfl (.inl rfl),rfl⟩,⟨_,.refl _,rfl⟩,trivial⟩ .nil rfl rfl (by rw [hK];rfl)) ?_
     (refine gM ?_;conv=>whnf);exact ret0 rfl rfl rfl
   ·rw [if_neg (by omega)];refine gEn env Tryz.func15 fun Γ hN hK hML=>?_;exact gR
  ·rw [if_neg (by omega)];refine gEn env Tryz.func15 fun Γ hN hK hML=>?_;exact gR
def ntN (c:Cell):Bool:=!c.null
set_option maxHeartbeats 1000000 in
theorem join1_spec (c:Cell):Spec Tryz.prog 95 [.agg c.row] [] (.bool (ntN c)) []:=by
 obtain ⟨b,s⟩:=c;unfold ntN;cases b with
 | true =>
  refine gEn env Tryz.func95 fun Γ hN hK hML=>?_;exact gR
 | false =>
  refine gEn env Tryz.func95 fun Γ hN hK hML=>?_;exact gR
set_option maxHeartbeats 2000000 in
theorem index1_spec  (l:List Cell):Spec Tryz.prog 143 [.sl (cellRows l) false,.fn 95 []] [] (.int .i64 (ixFrom (ntN) l 0)) []:=by
 have hrl:(cellRows l).length=l.length:=by simp [cellRows]
 refine gEn env Tryz.func143 fun Γ hN hK hML=>?_;refine gGo ?_;intros;refine W.loopG (fun n st=>∃ k:Nat,k≤l.length∧ixFrom (ntN) l 0=ixFrom (ntN) (l.drop k) k∧n=l.length-k∧st=⟨[(0,.sl (cellRows l) false),(1,.fn 95 []),(7,.int .i64 (cellRows l).length),(8,.int .i64 k)],[],[]⟩)
  l.length _ ⟨0,by omega,rfl,by omega,rfl⟩ gX ?_
 rintro n st ⟨k,hk,hix,rfl,rfl⟩;refine gT (fun hb=>?_) fun hb=>?_
 ·have hlt:k<l.length:=by omega
  have hx:(cellRows l)[k]?=some (l[k]).row:=by simp [cellRows,hlt]
  have sp:=join1_spec l[k];rw [List.drop_eq_getElem_cons hlt] at hix;generalize l[k]=x at *;simp only [ixFrom] at hix;refine g ?_;cases hb2:(ntN) x with
  | true =>
   rw [hb2] at sp hix;refine g ?_;refine gGr ?_;exact ret0 rfl (congrArg (V.int .i64) (by rw [hix];rfl)) rfl
  | false =>
   rw [hb2] at sp hix;refine g ?_;refine ⟨_,_,?_,⟨k+1,by omega,?_,rfl,rfl⟩,gX⟩
   ·omega
   ·rw [hix];rfl
 ·have hke:k=l.length:=by omega
  rw [hke,List.drop_length] at hix;refine gGr ?_;exact ret0 rfl (congrArg (V.int .i64) (by rw [hix];rfl)) rfl
theorem cont1_spec  (l:List Cell):Spec Tryz.prog 94 [.sl (cellRows l) false,.fn 95 []] [] (.bool (l.any (ntN))) []:=by
 have sp:=index1_spec l;have hn:=ixFrom_nonneg (ntN) l 0;generalize ixFrom (ntN) l 0=x at *;generalize l.any (ntN)=b at *;cases b with
 | true =>
  have hx:0≤x:=hn.2 rfl;refine gEn env Tryz.func94 fun Γ hN hK hML=>?_;exact gR
 | false =>
  have hx:¬ 0≤x:=fun h=>by cases hn.1 h
  refine gEn env Tryz.func94 fun Γ hN hK hML=>?_;exact gR
theorem fullC_any (c:Column):fullC c=c.cells.any ntN:=rfl
def isT (id:Int) (r:Rf):Bool:=decide (r.t=id)
set_option maxHeartbeats 1000000 in
theorem both2_spec (id:Int) (r:Rf):Spec Tryz.prog 147 [.agg r.row,.ro [.int .i64 id] 0] [] (.bool (isT id r)) []:=by
 unfold isT;by_cases h:r.t=id
 ·rw [decide_eq_true h];refine gEn env Tryz.func147 fun Γ hN hK hML=>?_;exact gR
 ·rw [decide_eq_false h];refine gEn env Tryz.func147 fun Γ hN hK hML=>?_;exact gR
set_option maxHeartbeats 2000000 in
theorem index2_spec (id:Int) (l:List Rf):Spec Tryz.prog 183 [.sl (rfRows l) false,.fn 147 [.ro [.int .i64 id] 0]] [] (.int .i64 (ixFrom (isT id) l 0)) []:=by
 have hrl:(rfRows l).length=l.length:=by simp [rfRows]
 refine gEn env Tryz.func183 fun Γ hN hK hML=>?_;refine gGo ?_;intros;refine W.loopG (fun n st=>∃ k:Nat,k≤l.length∧ixFrom (isT id) l 0=ixFrom (isT id) (l.drop k) k∧n=l.length-k∧st=⟨[(0,.sl (rfRows l) false),(1,.fn 147 [.ro [.int .i64 id] 0]),(7,.int .i64 (rfRows l).length),(8,.int .i64 k)],[],[]⟩)
  l.length _ ⟨0,by omega,rfl,by omega,rfl⟩ gX ?_
 rintro n st ⟨k,hk,hix,rfl,rfl⟩;refine gT (fun hb=>?_) fun hb=>?_
 ·have hlt:k<l.length:=by omega
  have hx:(rfRows l)[k]?=some (l[k]).row:=by simp [rfRows,hlt]
  have sp:=both2_spec id l[k];rw [List.drop_eq_getElem_cons hlt] at hix;generalize l[k]=x at *;simp only [ixFrom] at hix;refine g ?_;cases hb2:(isT id) x with
  | true =>
   rw [hb2] at sp hix;refine g ?_;refine gGr ?_;exact ret0 rfl (congrArg (V.int .i64) (by rw [hix];rfl)) rfl
  | false =>
   rw [hb2] at sp hix;refine g ?_;refine ⟨_,_,?_,⟨k+1,by omega,?_,rfl,rfl⟩,gX⟩
   ·omega
   ·rw [hix];rfl
 ·have hke:k=l.length:=by omega
  rw [hke,List.drop_length] at hix;refine gGr ?_;exact ret0 rfl (congrArg (V.int .i64) (by rw [hix];rfl)) rfl
theorem cont2_spec (id:Int) (l:List Rf):Spec Tryz.prog 146 [.sl (rfRows l) false,.fn 147 [.ro [.int .i64 id] 0]] [] (.bool (l.any (isT id))) []:=by
 have sp:=index2_spec id l;have hn:=ixFrom_nonneg (isT id) l 0;generalize ixFrom (isT id) l 0=x at *;generalize l.any (isT id)=b at *;cases b with
 | true =>
  have hx:0≤x:=hn.2 rfl;refine gEn env Tryz.func146 fun Γ hN hK hML=>?_;exact gR
 | false =>
  have hx:¬ 0≤x:=fun h=>by cases hn.1 h
  refine gEn env Tryz.func146 fun Γ hN hK hML=>?_;exact gR
set_option maxHeartbeats 1000000 in
theorem both1_spec (cs:List Rf) (id:Int):Spec Tryz.prog 145 [.int .i64 id,.ro [.sl (rfRows cs) false] 0] [] (.bool (cs.any (isT id))) []:=by
 have sp:=cont2_spec id cs;generalize cs.any (isT id)=b at *;refine gEn env Tryz.func145 fun Γ hN hK hML=>?_;refine gA ?_;(refine gE env hN (by kernel_rfl) ?_;conv=>whnf);refine gGs ?_;refine W.leG (mp:=[]) (bo:=[2]) (st':=⟨[(1,.ro [.sl (rfRows cs) false] 0),(2,.ro [.int .i64 id] 0)],[],[]⟩)
  (LeG.mk' rfl rfl rfl ⟨⟨_,.refl _,rfl⟩,⟨_,.bp 2 0 1 [.int .i64 id] none rfl rfl (by simp) (.inr rfl),rfl⟩,trivial⟩ .nil rfl rfl (by rw [hK];rfl)) ?_
 exact gR
structure KeyedB (es:List (Nat×V×V)) (L:List Str):Prop where
 ks:es.map (fun p=>p.2)=L.map fun s=>(V.str s,V.bool true)
theorem keyedB_look {t:Str}:∀ (L:List Str) (es:List (Nat×V×V)),es.map (fun p=>p.2)=L.map (fun s=>(V.str s,V.bool true))→(t∈L→∃ (j b:Nat),mapAt (.str t) es=some (some (j,b,.bool true))∧L[j]?=some t)∧(t∉L→mapAt (.str t) es=some none):=by
 intro L
 induction L with
 | nil =>
  intro es h;have:es=[]:=by simpa using h
  subst this;exact ⟨fun h=>(by cases h),fun _=>rfl⟩
 | cons s L ih =>
  intro es h;cases es with
  | nil=>simp at h
  | cons p es =>
   obtain ⟨b,k,v⟩:=p;simp only [List.map_cons,List.cons.injEq,Prod.mk.injEq] at h;obtain ⟨⟨rfl,rfl⟩,ht⟩:=h;obtain ⟨i1,i2⟩:=ih es ht;by_cases e:t=s
   ·subst e;exact ⟨fun _=>⟨0,b,by simp [mapAt,eqKey],rfl⟩,fun h=>absurd List.mem_cons_self h⟩
   ·have he:eqKey (.str t) (.str s)=some false:=by simp [eqKey,e]
    refine ⟨fun h=>?_,fun h=>?_⟩
    ·obtain ⟨j,b',q1,q2⟩:=i1 (by simpa [e] using h);exact ⟨j+1,b',by simp [mapAt,he,q1],by simpa using q2⟩
    ·have:=i2 (by simp at h;exact h.2);simp [mapAt,he,this]
theorem KeyedB.yes {es:List (Nat×V×V)}{L:List Str}(h:KeyedB es L) {t:Str}(ht:t∈L):∃ (j b:Nat),mapAt (.str t) es=some (some (j,b,.bool true))∧L[j]?=some t:=(keyedB_look L es h.ks).1 ht
theorem KeyedB.no {es:List (Nat×V×V)}{L:List Str}(h:KeyedB es L) {t:Str}(ht:t∉L):mapAt (.str t) es=some none:=(keyedB_look L es h.ks).2 ht
theorem KeyedB.set {es:List (Nat×V×V)}{L:List Str}(h:KeyedB es L) {t:Str}{j:Nat}(hj:L[j]?=some t) (b:Nat):KeyedB (es.set j (b,.str t,.bool true)) L:=by
 refine ⟨?_⟩;rw [List.map_set,h.ks];exact set_same (by simp [hj])
theorem KeyedB.snoc {es:List (Nat×V×V)}{L:List Str}(h:KeyedB es L) (t:Str) (c:Nat):KeyedB (es++[(c,.str t,.bool true)]) (L++[t]):=⟨by simp [h.ks]⟩
def missB (L:List Str) (c:Cell):Bool:=!c.null&&!decide (c.text∈L)
def hasH (es:List (Nat×V×V)) (ck:Nat):List (Nat×Blk):=[(90,.rows 1 [[.omap 91 0]] none),(91,.map es ck (some []))]
set_option maxHeartbeats 2000000 in
theorem covers1_spec {es:List (Nat×V×V)}{L:List Str}(hes:KeyedB es L) (ck:Nat) (c:Cell):Spec Tryz.prog 144 [.agg c.row,.bp 90 0] (hasH es ck) (.bool (missB L c)) (hasH es ck):=by
 obtain ⟨nl,tx⟩:=c;unfold missB hasH;cases nl with
 | true =>
  refine gEn env Tryz.func144 fun Γ hN hK hML=>?_;refine gGo ?_;(refine gM ?_;conv=>whnf);exact retH rfl (.refl _) rfl rfl rfl ⟨rfl,rfl,rfl,rfl,trivial⟩
 | false =>
  by_cases hm:tx∈L
  ·obtain ⟨i2,b,q1,q2⟩:=hes.yes hm;rw [decide_eq_true hm];refine gEn env Tryz.func144 fun Γ hN hK hML=>?_;refine gGo ?_;refine zok_intro (by kernel_rfl) ?_;(conv=>whnf);refine ⟨_,q1,?_⟩;(conv=>whnf);refine gGo ?_;(refine gM ?_;conv=>whnf);exact retH rfl (.refl _) rfl rfl rfl ⟨rfl,rfl,rfl,rfl,trivial⟩
  ·rw [decide_eq_false hm];refine gEn env Tryz.func144 fun Γ hN hK hML=>?_;refine gGo ?_;refine zok_intro (by kernel_rfl) ?_;(conv=>whnf);refine ⟨_,hes.no hm,?_⟩;(conv=>whnf);refine gGo ?_;(refine gM ?_;conv=>whnf);exact retH rfl (.refl _) rfl rfl rfl ⟨rfl,rfl,rfl,rfl,trivial⟩
set_option maxHeartbeats 2000000 in
theorem index3_spec {es:List (Nat×V×V)}{L:List Str}(hes:KeyedB es L) (ck:Nat) (l:List Cell):Spec Tryz.prog 143 [.sl (cellRows l) false,.fn 144 [.bp 90 0]] (hasH es ck) (.int .i64 (ixFrom (missB L) l 0)) (hasH es ck):=by
 have hrl:(cellRows l).length=l.length:=by simp [cellRows]
 have sp0:=fun c=>covers1_spec hes ck c;unfold hasH at sp0 ⊢;refine gEn env Tryz.func143 fun Γ hN hK hML=>?_;refine gGo ?_;intros;refine W.loopG (fun n st=>∃ k:Nat,k≤l.length∧ixFrom (missB L) l 0=ixFrom (missB L) (l.drop k) k∧n=l.length-k∧st=⟨[(0,.sl (cellRows l) false),(1,.fn 144 [.bp 90 0]),(7,.int .i64 (cellRows l).length),(8,.int .i64 k)],[(90,[.rows 1 [[.omap 91 0]] none]),(91,[.map es ck (some [])])],[90,91]⟩)
  l.length _ ⟨0,by omega,rfl,by omega,rfl⟩ gX ?_
 rintro n st ⟨k,hk,hix,rfl,rfl⟩;refine gT (fun hb=>?_) fun hb=>?_
 ·have hlt:k<l.length:=by omega
  have hx:(cellRows l)[k]?=some (l[k]).row:=by simp [cellRows,hlt]
  have sp:=sp0 l[k];rw [List.drop_eq_getElem_cons hlt] at hix;generalize l[k]=x at *;simp only [ixFrom] at hix;refine g ?_;cases hb2:missB L x with
  | true =>
   rw [hb2] at sp hix;rw [hix];(refine gCA [(90,90),(91,91)] [] [] (sp) ?_;conv=>whnf);refine gGo ?_;(refine gM ?_;conv=>whnf);exact retH rfl (.refl _) rfl rfl rfl ⟨rfl,rfl,rfl,rfl,trivial⟩
  | false =>
   rw [hb2] at sp hix;(refine gCA [(90,90),(91,91)] [] [] (sp) ?_;conv=>whnf);refine gGo ?_;refine ⟨_,_,?_,⟨k+1,by omega,?_,rfl,rfl⟩,gX⟩
   ·omega
   ·rw [hix];rfl
 ·have hke:k=l.length:=by omega
  rw [hke,List.drop_length] at hix;rw [hix];refine gGo ?_;(refine gM ?_;conv=>whnf);exact retH rfl (.refl _) rfl rfl rfl ⟨rfl,rfl,rfl,rfl,trivial⟩
set_option maxHeartbeats 2000000 in
theorem cont3_spec {es:List (Nat×V×V)}{L:List Str}(hes:KeyedB es L) (ck:Nat) (l:List Cell):Spec Tryz.prog 94 [.sl (cellRows l) false,.fn 144 [.bp 90 0]] (hasH es ck) (.bool (l.any (missB L))) (hasH es ck):=by
 have sp:=index3_spec hes ck l;have hn:=ixFrom_nonneg (missB L) l 0;unfold hasH at sp ⊢;generalize ixFrom (missB L) l 0=x at *;generalize l.any (missB L)=b at *;cases b with
 | true =>
  have hx:0≤x:=hn.2 rfl;refine gEn env Tryz.func94 fun Γ hN hK hML=>?_;refine gGo ?_;(refine gCA [(90,90),(91,91)] [] [] (sp) ?_;conv=>whnf);refine gGo ?_;(refine gM ?_;conv=>whnf);exact retH rfl (.refl _) rfl rfl rfl ⟨rfl,rfl,rfl,rfl,trivial⟩
 | false =>
  have hx:¬ 0≤x:=fun h=>by cases hn.1 h
  refine gEn env Tryz.func94 fun Γ hN hK hML=>?_;refine gGo ?_;(refine gCA [(90,90),(91,91)] [] [] (sp) ?_;conv=>whnf);refine gGo ?_;(refine gM ?_;conv=>whnf);exact retH rfl (.refl _) rfl rfl rfl ⟨rfl,rfl,rfl,rfl,trivial⟩
def textN (cs:List Cell):List Str:=(cs.filter ntN).map Cell.text
theorem coverB_miss (cells:List Cell) (c:Column) {L:List Str}(hL:∀ s,s∈L↔s∈textN cells):coverB cells c=!c.cells.any (missB L):=by
 unfold coverB;rw [List.not_any_eq_all_not];refine congrArg (fun f=>c.cells.all f) (funext fun x=>?_);unfold missB;cases hx:x.null with
 | true=>rfl
 | false =>
  simp only [Bool.false_or,Bool.not_false,Bool.true_and,Bool.not_not];rw [Bool.eq_iff_iff,List.any_eq_true,decide_eq_true_eq,hL];unfold textN ntN;rw [List.mem_map];simp only [List.mem_filter,Bool.and_eq_true,decide_eq_true_eq];exact ⟨fun ⟨y,h1,h2,h3⟩=>⟨y,⟨h1,h2⟩,h3⟩,fun ⟨y,⟨h1,h2⟩,h3⟩=>⟨y,h1,h2,h3⟩⟩
def entT (E:List (Nat×Str)):List (Nat×V×V):=E.map fun p=>(p.1,V.str p.2,V.bool true)
def cvF (F:List (Nat×Str)×Nat) (x:Cell):List (Nat×Str)×Nat:=if x.null=true∨x.text∈F.1.map Prod.snd then F else (F.1++[(F.2,x.text)],F.2+1)
theorem entT_keyed (E:List (Nat×Str)):KeyedB (entT E) (E.map Prod.snd):=⟨by simp [entT]⟩
theorem cvF_mem (s:Str):∀ (cells:List Cell) (F:List (Nat×Str)×Nat),s∈(cells.foldl cvF F).1.map Prod.snd↔s∈F.1.map Prod.snd∨s∈textN cells
 | [],F=>by simp [textN]
 | x::cells,F=>by
  rw [List.foldl_cons,cvF_mem s cells];unfold cvF textN ntN;rw [List.filter_cons];cases hx:x.null with
  | true=>simp
  | false =>
   by_cases hm:x.text∈F.1.map Prod.snd
   ·rw [if_pos (.inr hm)];simp only [Bool.not_false,if_true,List.map_cons,List.mem_cons];refine ⟨fun h=>h.elim .inl fun h=>.inr (.inr h),fun h=>?_⟩;rcases h with h | h | h
    ·exact .inl h
    ·exact .inl (h ▸ hm)
    ·exact .inr h
   ·rw [if_neg (by simp [hm])];simp only [Bool.not_false,if_true,List.map_cons,List.mem_cons,List.map_append,List.mem_append,List.map_nil,List.not_mem_nil,or_false];rw [or_assoc]
theorem entT_set {E:List (Nat×Str)}{s:Str}{j b:Nat}(h:mapAt (.str s) (entT E)=some (some (j,b,.bool true))):(entT E).set j (b,.str s,.bool true)=entT E:=by
 obtain ⟨k',h1,h2⟩:=mapAt_some h;have:=eqKey_same h2;subst this;obtain ⟨hj,he⟩:=List.getElem?_eq_some_iff.1 h1;rw [←he];exact List.set_getElem_self hj
set_option maxHeartbeats 4000000 in
theorem covers_spec (cells:List Cell) (c:Column) (es:List (Nat×V×V)) (ck:Nat):Spec Tryz.prog 96 [.omap 0 0,.sl (cellRows cells) false,.agg c.row] [(0,.map es ck (some []))] (.bool (coverB cells c)) [(0,.map (entT (cells.foldl cvF ([],ck)).1) (cells.foldl cvF ([],ck)).2 (some []))]:=by
 have hcl:=cellRows_len cells;have hcm:=fun s=>cvF_mem s cells ([],ck);have hF0:∃ F,F=cells.foldl cvF ([],ck):=⟨_,rfl⟩
 obtain ⟨G,hG⟩:=hF0;have spC:=cont3_spec (entT_keyed G.1) G.2 c.cells;rw [←hG] at hcm ⊢;rw [coverB_miss cells c (L:=G.1.map Prod.snd) (fun s=>by rw [hcm];simp)];unfold hasH at spC;refine gEn env Tryz.func96 fun Γ hN hK hML=>?_;refine gGo ?_;intros;refine W.loopG (fun m st=>∃ (j:Nat) (F:List (Nat×Str)×Nat),j≤cells.length∧G=(cells.drop j).foldl cvF F∧m=cells.length-j∧st=⟨[(1,.sl (cellRows cells) false),(3,.bp 3 0),(5,.ro c.row 0),(10,.sl (cellRows cells) false),(11,.int .i64 (cellRows cells).length),(12,.int .i64 (j:Nat))],[(0,[.map (entT F.1) F.2 (some [])]),(3,[.rows 1 [[.omap 0 0]] none])],[0,3]⟩) cells.length _ ⟨0,([],ck),by omega,by rw [List.drop_zero];exact hG,by omega,rfl⟩
  ⟨[(0,0),(3,3)],[5],[],LeG.mk' rfl rfl rfl (by repeat' (first | exact trivial | exact ⟨_,.refl _,rfl⟩ | exact ⟨_,.bp 5 0 2 c.row none rfl rfl (by simp [Column.row]) (.inr rfl),rfl⟩ | apply And.intro)) (.ci 0 (.ci 3 .nil)) rfl rfl (by rw [hK];rfl)⟩ ?_
 rintro m st ⟨j,F,hj,hGF,rfl,rfl⟩;refine gT (fun hb=>?_) fun hb=>?_
 ·have hjl:j<cells.length:=by omega
  have hg:=cellRows_get hjl;rw [List.drop_eq_getElem_cons hjl,List.foldl_cons] at hGF;generalize cells[j]=x at *;obtain ⟨nl,tx⟩:=x;have hke:=entT_keyed F.1;refine g ?_;cases nl with
  | true =>
   refine gGo ?_;exact gZ ⟨j+1,F,by omega,by rw [hGF];unfold cvF;rw [if_pos (.inl rfl)],rfl,rfl⟩
  | false =>
   refine gGo ?_;by_cases hm:tx∈F.1.map Prod.snd
   ·obtain ⟨i,b,q1,q2⟩:=hke.yes hm;have hset:=entT_set q1;refine ⟨_,q1,?_⟩;(conv=>whnf);refine gGo ?_;refine ⟨_,_,?_,⟨j+1,F,by omega,by rw [hGF];unfold cvF;rw [if_pos (.inr hm)],rfl,rfl⟩,[(0,0),(3,3)],[],[],LeG.mq (.cons 0 rfl rfl (.refl _) (congrArg (fun e=>([Blk.map e F.2 (some [])]:List Blk)) hset.symm) (.ci 3 .nil))⟩;omega
   ·refine ⟨_,hke.no hm,?_⟩;(conv=>whnf);refine gGo ?_;refine ⟨_,_,?_,⟨j+1,(F.1++[(F.2,tx)],F.2+1),by omega,by rw [hGF];unfold cvF;rw [if_neg (by simp [hm])],rfl,rfl⟩,[(0,0),(3,3)],[],[],LeG.mq (.cons 0 rfl rfl (.refl _) (congrArg (fun e=>([Blk.map e (F.2+1) (some [])]:List Blk)) (show entT (F.1++[(F.2,tx)])=entT F.1++[(F.2,V.str tx,V.bool true)] from by unfold entT;rw [List.map_append];rfl)) (.ci 3 .nil))⟩;omega
 ·have hje:j=cells.length:=by omega
  rw [hje,List.drop_length] at hGF;subst hGF;refine gGo ?_;(refine gCA [(90,3),(91,0)] [] [] (spC) ?_;conv=>whnf);refine gGo ?_;(refine gM ?_;conv=>whnf);exact retH rfl (.refl _) rfl rfl rfl ⟨rfl,rfl,trivial⟩
def lnV (r:List Cell):List V:=[.sl (cellRows r) false]
def lnRows (l:List (List Cell)):List (List V):=l.map lnV
theorem lnRows_len (l:List (List Cell)):(lnRows l).length=l.length:=by simp [lnRows]
theorem lnRows_get {l:List (List Cell)}{i:Nat}(h:i<l.length):(lnRows l)[i]?=some [.sl (cellRows l[i]) false]:=by simp [lnRows,lnV,h]
theorem lnRows_snoc (l:List (List Cell)) (x:List Cell):lnRows (l++[x])=lnRows l++[lnV x]:=by simp [lnRows]
theorem rfRows_snoc (l:List Rf) (x:Rf):rfRows (l++[x])=rfRows l++[x.row]:=by simp [rfRows]
def joinR (l:List Table) (p:Pth):List Rf:=refsL (tabsM l p)
def joinC (l:List Table) (p:Pth):List (List Cell):=(joinR l p).map (cellsR l p)
def jnRow (p:Pth) (R:List Rf) (C:List (List Cell)) (n:Nat):List V:=[.int .i64 p.start,.sl (stpRows p.steps) false,.sl (rfRows R) false,.sl (lnRows C) false,.int .i64 (n:Nat)]
def refsI (ts:List Table) (i:Nat):List Rf:=(ts.take i).flatMap fun t=>refsT t t.cols.length
theorem refsI_succ {ts:List Table}{i:Nat}(h:i<ts.length):refsI ts (i+1)=refsI ts i++refsT ts[i] (ts[i]).cols.length:=by
 unfold refsI;rw [List.take_succ_eq_append_getElem h,List.flatMap_append];simp
theorem refsI_all (ts:List Table):refsI ts ts.length=refsL ts:=by unfold refsI refsL;rw [List.take_length]
theorem refsI_mem {ts:List Table}{i:Nat}(h:i<ts.length) {r:Rf}{k:Nat}(hk:k≤(ts[i]).cols.length) (hr:r∈refsT ts[i] k):r∈refsL ts:=by
 refine List.mem_flatMap.2 ⟨ts[i],List.getElem_mem h,?_⟩;unfold refsT at hr ⊢;obtain ⟨j,hj,rfl⟩:=List.mem_map.1 hr;have h1:=List.mem_filter.1 hj;exact List.mem_map.2 ⟨j,List.mem_filter.2 ⟨List.mem_range.2 (by have:=List.mem_range.1 h1.1;omega),h1.2⟩,rfl⟩
theorem tabsM_small {l:List Table}{p:Pth}(h:listB l=true):∀ t∈tabsM l p,t.cols.length≤64:=by
 have key:∀ n:Int,(tabOf l n).cols.length≤64:=fun n=>by
  unfold tabOf;cases hf:findT l n with
  | none=>simp [Table.zero]
  | some t =>
   have hv:=listB_valid h t (List.mem_of_find?_eq_some hf);simp only [validB,headB,Bool.and_eq_true,decide_eq_true_eq] at hv;show t.cols.length≤64;omega
 intro t ht;unfold tabsM at ht;rcases List.mem_cons.1 ht with rfl | ht
 ·exact key _
 ·obtain ⟨s,_,rfl⟩:=List.mem_map.1 ht;exact key _
theorem refsI_len {ts:List Table}(h:∀ t∈ts,t.cols.length≤64) (i:Nat):(refsI ts i).length≤ts.length*64:=by
 have key:∀ ts:List Table,(∀ t∈ts,t.cols.length≤64)→(ts.flatMap fun t=>refsT t t.cols.length).length≤ts.length*64:=by
  intro ts
  induction ts with
  | nil=>intro _;simp
  | cons t ts ih =>
   intro h;have h1:=ih fun u hu=>h u (List.mem_cons_of_mem _ hu);have h2:=refsT_len t t.cols.length;have h3:=h t List.mem_cons_self;rw [List.flatMap_cons,List.length_append,List.length_cons,Nat.add_mul];omega
 refine Nat.le_trans (key _ fun t ht=>h t (List.mem_of_mem_take ht)) (Nat.mul_le_mul_right _ ?_);rw [List.length_take];omega
theorem col_cells {l:List Table}{p:Pth}(h:validE l p=0) {i:Nat}(hi:i≤p.steps.length) {k:Nat}(hk:k<(tabN l p i).cols.length) (hf:fullC ((tabN l p i).cols[k])=true) :
  (rowsL l p).map (fun row=>((tabN l p i).cols[k]).cells.getD (row.getD i 0) cell0)=cellsR l p ⟨(tabN l p i).id,(k:Int)⟩∧((tabN l p i).cols[k]).cells.length=rowsN (tabN l p i):=by
 have hti:i<(tabsM l p).length:=by rw [tabsM_len];omega
 have hge:(tabsM l p)[i]=tabN l p i:=by
  have:=tabsM_get l p hi;rw [List.getElem?_eq_getElem hti] at this;exact Option.some.inj this
 have hmem:(⟨(tabN l p i).id,(k:Int)⟩:Rf)∈refsL (tabsM l p):=by
  refine refsI_mem hti (k:=(tabN l p i).cols.length) (by rw [hge];exact Nat.le_refl _) ?_;rw [hge];refine List.mem_map.2 ⟨k,List.mem_filter.2 ⟨List.mem_range.2 hk,?_⟩,rfl⟩;rw [List.getD_eq_getElem?_getD,List.getElem?_eq_getElem hk];exact hf
 obtain ⟨q,h1,h2,h3,h4,h5,hc,h6,h7,h8⟩:=has_facts h (refsL_has h hmem);have hqi:q=i:=by
  have hnd:=bef_nodup h p.steps.length (Nat.le_refl _);have e1:(tabsI p)[q]?=some (tabN l p i).id:=h4;have e2:(tabsI p)[i]?=some (tabN l p i).id:=by
   rw [←tabsI_tabs h,List.getElem?_map,tabsM_get l p hi];rfl
  obtain ⟨g1,g2⟩:=List.getElem?_eq_some_iff.1 e1;obtain ⟨g3,g4⟩:=List.getElem?_eq_some_iff.1 e2;have hpw:=List.pairwise_iff_getElem.1 (List.nodup_iff_pairwise_ne.1 hnd);rcases Nat.lt_trichotomy q i with e | e | e
  ·exact absurd (g2.trans g4.symm) (hpw q i g1 g3 e)
  ·exact e
  ·exact absurd (g4.trans g2.symm) (hpw i q g3 g1 e)
 subst hqi;refine ⟨?_,?_⟩
 ·unfold cellsR;refine List.map_congr_left fun row _=>?_;unfold cellV;rw [h7,h2];rfl
 ·have h8:=h8;rw [h7] at h8;exact h8
def fillG (ys:List Cell) (x:Nat):List Cell:=ys.take x++List.replicate (ys.length-x) cell0
theorem fillG_len {ys:List Cell}{x:Nat}(h:x≤ys.length):(fillG ys x).length=ys.length:=by simp [fillG];omega
theorem fillG_zero (ys:List Cell):cellRows (fillG ys 0)=List.replicate ys.length [.bool false,.str []]:=by
 simp [fillG,cellRows,Cell.row,cell0]
theorem fillG_all (ys:List Cell):fillG ys ys.length=ys:=by simp [fillG]
theorem fillG_set {ys:List Cell}{x:Nat}(h:x<ys.length):(cellRows (fillG ys x)).set x (ys[x]).row=cellRows (fillG ys (x+1)):=by
 have e:(fillG ys x).set x ys[x]=fillG ys (x+1):=by
  refine List.ext_getElem? fun j=>?_;rw [List.getElem?_set];unfold fillG;by_cases hj:x=j
  ·subst hj;rw [if_pos rfl,if_pos (by simp;omega),List.getElem?_append_left (by simp;omega),List.getElem?_take,if_pos (by omega),List.getElem?_eq_getElem h]
  ·rw [if_neg hj];by_cases h1:j<x
   ·rw [List.getElem?_append_left (by simp;omega),List.getElem?_append_left (by simp;omega),List.getElem?_take,List.getElem?_take,if_pos h1,if_pos (by omega)]
   ·rw [List.getElem?_append_right (by simp;omega),List.getElem?_append_right (by simp;omega),List.getElem?_replicate,List.getElem?_replicate];simp only [List.length_take];by_cases h2:j<ys.length
    ·rw [if_pos (by omega),if_pos (by omega)]
    ·rw [if_neg (by omega),if_neg (by omega)]
 rw [←e];unfold cellRows;rw [List.map_set]
set_option maxHeartbeats 4000000 in
theorem join_many {l:List Table}{p:Pth}(h:validE l p=0) (htot:¬ (rowsL l p).length≤4096):Spec Tryz.prog 41 [.sl (tblRows l) false,.agg p.row] [] (.tup [.agg (jnRow ⟨0,[]⟩ [] [] 0),.bool false]) []:=by
 have sp2:=new_spec l p (pathOK_of h) (cntOK_of h);have sp3:=total_spec h;have hpl:=plan_rows l p;have hlen:=planN_len l p;rw [totN_eq] at sp3;refine gEn env Tryz.func41 fun Γ hN hK hML=>?_;refine gGo ?_;(refine gCA [] [(0,15),(1,90)] [] (sp2) ?_;conv=>whnf);refine gGs ?_;refine W.leG (mp:=[(4,4),(15,15)]) (bo:=[90,3]) (st':=⟨[(3,.ro p.row 0),(4,.bp 4 0),(5,.bool false),(6,.bp 15 0)],[(4,[.rows 5 [[.int .i64 0,.nils,.nils,.nils,.int .i64 0]] none]),(15,[.rows 1 [[.sl (nodRows (planN l p)) false]] none])],[4,15]⟩)
  (LeG.mk' rfl rfl rfl ⟨⟨_,.bp 3 0 2 p.row none rfl rfl (by simp [Pth.row]) (.inr rfl),rfl⟩,⟨_,.refl _,rfl⟩,⟨_,.refl _,rfl⟩,⟨_,.refl _,rfl⟩,trivial⟩ (.ci 4 (.cons 15 (b1:=.rows 1 [[.sl (nodRows (planN l p)) false]] none) rfl rfl (.rows _ _ _ (by repeat' (first | exact trivial | exact ⟨Lent.whole rfl rfl hpl.symm rfl (.inl rfl),rfl⟩ | apply And.intro))) rfl .nil)) rfl rfl (by rw [hK];rfl)) ?_
 refine W.leG (mp:=[(4,4)]) (bo:=[15]) (st':=⟨[(3,.ro p.row 0),(4,.bp 4 0),(5,.bool false),(6,.ro (planR l p) 0)],[(4,[.rows 5 [[.int .i64 0,.nils,.nils,.nils,.int .i64 0]] none])],[4]⟩)
  (LeG.mk' rfl rfl rfl ⟨⟨_,.refl _,rfl⟩,⟨_,.refl _,rfl⟩,⟨_,.refl _,rfl⟩,⟨_,Lent.bp 15 0 1 (planR l p) none rfl rfl (Nat.zero_le _) (.inr rfl),rfl⟩,trivial⟩ (.ci 4 .nil) rfl rfl (by rw [hK];rfl)) ?_
 refine g ?_;(refine gM ?_;conv=>whnf);exact retH rfl (.norm _) rfl rfl rfl trivial
set_option maxHeartbeats 16000000 in
theorem join_ok {l:List Table}{p:Pth}(h:validE l p=0) (htot:(rowsL l p).length≤4096):Spec Tryz.prog 41 [.sl (tblRows l) false,.agg p.row] [] (.tup [.agg (jnRow p (joinR l p) (joinC l p) (rowsL l p).length),.bool true]) []:=by
 have sp4:=rowsW_spec h htot;have sp5:=tablesW_spec h;have hcol:=fun (i:Nat) (hi:i≤p.steps.length) (k:Nat) hk hf=>col_cells h hi (k:=k) hk hf;have hml:=tabsM_len l p;have hmg:=fun i hi=>tabsM_get l p (i:=i) hi;have hrow:∀ row∈rowsL l p,RowOK l p row:=fun row hr=>by
  obtain ⟨g1,g2⟩:=rowsL_mem hr;exact ⟨g1,fun i hi=>g2.lt i (by omega)⟩
 have hsml:=tabsM_small (p:=p) (valid_path h).1;have h4:=(valid_path h).2.1;unfold joinR joinC joinR;have sp2:=new_spec l p (pathOK_of h) (cntOK_of h);have sp3:=total_spec h;have hpl:=plan_rows l p;have hlen:=planN_len l p;rw [totN_eq] at sp3;refine gEn env Tryz.func41 fun Γ hN hK hML=>?_;refine gGo ?_;(refine gCA [] [(0,15),(1,90)] [] (sp2) ?_;conv=>whnf);refine gGs ?_;refine W.leG (mp:=[(4,4),(15,15)]) (bo:=[90,3]) (st':=⟨[(3,.ro p.row 0),(4,.bp 4 0),(5,.bool false),(6,.bp 15 0)],[(4,[.rows 5 [[.int .i64 0,.nils,.nils,.nils,.int .i64 0]] none]),(15,[.rows 1 [[.sl (nodRows (planN l p)) false]] none])],[4,15]⟩)
  (LeG.mk' rfl rfl rfl ⟨⟨_,.bp 3 0 2 p.row none rfl rfl (by simp [Pth.row]) (.inr rfl),rfl⟩,⟨_,.refl _,rfl⟩,⟨_,.refl _,rfl⟩,⟨_,.refl _,rfl⟩,trivial⟩ (.ci 4 (.cons 15 (b1:=.rows 1 [[.sl (nodRows (planN l p)) false]] none) rfl rfl (.rows _ _ _ (by repeat' (first | exact trivial | exact ⟨Lent.whole rfl rfl hpl.symm rfl (.inl rfl),rfl⟩ | apply And.intro))) rfl .nil)) rfl rfl (by rw [hK];rfl)) ?_
 refine W.leG (mp:=[(4,4)]) (bo:=[15]) (st':=⟨[(3,.ro p.row 0),(4,.bp 4 0),(5,.bool false),(6,.ro (planR l p) 0)],[(4,[.rows 5 [[.int .i64 0,.nils,.nils,.nils,.int .i64 0]] none])],[4]⟩)
  (LeG.mk' rfl rfl rfl ⟨⟨_,.refl _,rfl⟩,⟨_,.refl _,rfl⟩,⟨_,.refl _,rfl⟩,⟨_,Lent.bp 15 0 1 (planR l p) none rfl rfl (Nat.zero_le _) (.inr rfl),rfl⟩,trivial⟩ (.ci 4 .nil) rfl rfl (by rw [hK];rfl)) ?_
 refine g ?_;(refine gCA [] [(95,395)] [] (sp4) ?_;conv=>whnf);refine gGs ?_;generalize tabsM l p=TS at *;generalize rowsL l p=L at *;generalize hCR:cellsR l p=CR at *;have hLl:=rowRows_len L;have hTl:=tblRows_len TS;refine W.leG (mp:=[(4,4)]) (bo:=[395]) (st':=⟨[(3,.ro p.row 0),(4,.bp 4 0),(5,.bool false),(6,.ro (planR l p) 0),(7,.sl (rowRows L) false)],[(4,[.rows 5 [[.int .i64 0,.nils,.nils,.nils,.int .i64 0]] none])],[4]⟩)
  (LeG.mk' rfl rfl rfl (by repeat' (first | exact trivial | exact ⟨_,.refl _,rfl⟩ | exact ⟨_,Lent.whole rfl rfl rfl rfl (.inl rfl),rfl⟩ | apply And.intro)) (.ci 4 .nil) rfl rfl (by rw [hK];rfl)) ?_
 (refine g ?_;intros);refine W.ownCell 8 0 2 301 2 rfl rfl rfl rfl rfl ?_;refine W.ownCell 8 0 3 302 1 rfl rfl rfl rfl rfl ?_;rw [hLl];refine W.loopG (fun m st=>∃ i:Nat,i≤TS.length∧m=TS.length-i∧st=⟨[(4,.bp 4 0),(7,.sl (rowRows L) false),(8,.bp 8 0),(30,.sl (tblRows TS) false),(31,.int .i64 (tblRows TS).length),(32,.int .i64 (i:Nat))],[(4,[.rows 5 [[.int .i64 0,.nils,.nils,.nils,.int .i64 0]] none]),(8,[.rows 5 [[.int .i64 p.start,.sl (stpRows p.steps) false,.osl 301 0 0 (refsI TS i).length (refsI TS i).length,.osl 302 0 0 (refsI TS i).length (refsI TS i).length,.int .i64 (L.length:Nat)]] none]),(301,[.rows 2 (rfRows (refsI TS i)) (some [])]),(302,[.rows 1 (lnRows ((refsI TS i).map CR)) (some [])])],[4,8,301,302]⟩)
  TS.length _ ⟨0,by omega,by omega,rfl⟩ ⟨[(4,4),(8,8),(301,301),(302,302)],[],[],LeG.mq (.ci 4 (.cons 8 rfl rfl (.refl _) (rfl) (.cons 301 rfl rfl (.refl _) (rfl) (.cons 302 rfl rfl (.refl _) (rfl) .nil))))⟩ ?_
 rintro m st ⟨i,hi,rfl,rfl⟩;have hRl:=refsI_len hsml i;refine gT (fun hb=>?_) fun hb=>?_
 ·have hil:i<TS.length:=by omega
  have hg:=tblRows_get hil;have hge:TS[i]=tabN l p i:=by
   have:=hmg i (by omega);rw [List.getElem?_eq_getElem hil] at this;exact Option.some.inj this
  have hsu:=refsI_succ hil;have hcol:=hcol i (by omega);have hlen:=hsml _ (List.getElem_mem hil);have hrw:=fun row hr=>(hrow row hr).lt i (by omega);rw [←hge] at hcol hrw;generalize TS[i]=t at *;generalize refsI TS i=R0 at *;have htl:=colRows_len t.cols;(refine g ?_;intros);refine W.loopG (fun m st=>∃ k:Nat,k≤t.cols.length∧m=t.cols.length-k∧st=⟨[(4,.bp 4 0),(7,.sl (rowRows L) false),(8,.bp 8 0),(30,.sl (tblRows TS) false),(31,.int .i64 (tblRows TS).length),(32,.int .i64 (i:Nat)),(9,.int .i64 (i:Nat)),(10,.ro t.row 0),(38,.sl (colRows t.cols) false),(39,.int .i64 (colRows t.cols).length),(40,.int .i64 (k:Nat))],[(4,[.rows 5 [[.int .i64 0,.nils,.nils,.nils,.int .i64 0]] none]),(8,[.rows 5 [[.int .i64 p.start,.sl (stpRows p.steps) false,.osl 301 0 0 ((R0++refsT t k)).length ((R0++refsT t k)).length,.osl 302 0 0 ((R0++refsT t k)).length ((R0++refsT t k)).length,.int .i64 (L.length:Nat)]] none]),(301,[.rows 2 (rfRows ((R0++refsT t k))) (some [])]),(302,[.rows 1 (lnRows (((R0++refsT t k)).map CR)) (some [])])],[4,8,301,302]⟩)
   t.cols.length _ ⟨0,by omega,by omega,rfl⟩ ⟨[(4,4),(8,8),(301,301),(302,302)],[10],[],LeG.mk' rfl rfl rfl (by repeat' (first | exact trivial | exact ⟨_,.refl _,rfl⟩ | exact ⟨_,.bp 10 0 3 t.row none rfl rfl (by simp [Table.row]) (.inr rfl),rfl⟩ | apply And.intro)) (.ci 4 (.cons 8 rfl rfl (.refl _) (by rw [show refsT t 0=[] from rfl,List.append_nil];rfl) (.cons 301 rfl rfl (.refl _) (by rw [show refsT t 0=[] from rfl,List.append_nil];rfl) (.cons 302 rfl rfl (.refl _) (by rw [show refsT t 0=[] from rfl,List.append_nil];rfl) .nil)))) rfl rfl (by rw [hK];rfl)⟩ ?_
  rintro m st ⟨k,hk,rfl,rfl⟩;refine gT (fun hb=>?_) fun hb=>?_
  ·have hkl:k<t.cols.length:=by omega
   have hgc:=colRows_get hkl;have hsk:=refsT_succ t k;rw [show t.cols.getD k ⟨[],[]⟩=t.cols[k] by simp [hkl]] at hsk;have hck:=hcol k hkl;have sp6:=cont1_spec t.cols[k].cells;have hrT:=refsT_len t k;generalize t.cols[k]=c at *;have hccl:=cellRows_len c.cells;rw [fullC_any] at hsk hck;refine g ?_;cases hf:c.cells.any ntN with
   | false =>
    rw [hf] at sp6 hsk;rw [if_neg (by decide)] at hsk;refine g ?_;refine ⟨_,_,?_,⟨k+1,by omega,rfl,rfl⟩,[(4,4),(8,8),(301,301),(302,302)],[],[],LeG.mq (.ci 4 (.cons 8 rfl rfl (.refl _) (by rw [hsk];rfl) (.cons 301 rfl rfl (.refl _) (by rw [hsk];rfl) (.cons 302 rfl rfl (.refl _) (by rw [hsk];rfl) .nil))))⟩;omega
   | true =>
    rw [hf] at sp6 hsk;rw [if_pos rfl] at hsk;obtain ⟨hys,hcr⟩:=hck hf;obtain ⟨ys,hy⟩:∃ ys,ys=L.map fun row=>c.cells.getD (row.getD i 0) cell0:=⟨_,rfl⟩
    rw [←hy] at hys;have hyl:ys.length=L.length:=by rw [hy,List.length_map]
    (refine g ?_;intros);rw [hLl];refine And.intro ⟨by omega,by omega,show (L.length:Int)*24≤140737488355328 by omega,by omega⟩ ?_;rw [Int.toNat_natCast];(conv=>whnf);refine gGo ?_;intros;refine W.loopG (fun m st=>∃ x:Nat,x≤L.length∧m=L.length-x∧st=⟨[(4,.bp 4 0),(7,.sl (rowRows L) false),(8,.bp 8 0),(30,.sl (tblRows TS) false),(31,.int .i64 (tblRows TS).length),(32,.int .i64 (i:Nat)),(9,.int .i64 (i:Nat)),(10,.ro t.row 0),(38,.sl (colRows t.cols) false),(39,.int .i64 (colRows t.cols).length),(40,.int .i64 (k:Nat)),(11,.int .i64 (k:Nat)),(12,.ro c.row 0),(13,.osl 303 0 0 L.length L.length),(52,.sl (rowRows L) false),(53,.int .i64 (rowRows L).length),(54,.int .i64 (x:Nat))],[(4,[.rows 5 [[.int .i64 0,.nils,.nils,.nils,.int .i64 0]] none]),(8,[.rows 5 [[.int .i64 p.start,.sl (stpRows p.steps) false,.osl 301 0 0 ((R0++refsT t k)).length ((R0++refsT t k)).length,.osl 302 0 0 ((R0++refsT t k)).length ((R0++refsT t k)).length,.int .i64 (L.length:Nat)]] none]),(301,[.rows 2 (rfRows ((R0++refsT t k))) (some [])]),(302,[.rows 1 (lnRows (((R0++refsT t k)).map CR)) (some [])]),(303,[.rows 2 (cellRows (fillG ys x)) (some [])])],[4,8,301,302,303]⟩)
     L.length _ ⟨0,by omega,by omega,rfl⟩ ⟨[(4,4),(8,8),(301,301),(302,302),(51,303)],[12],[],LeG.mk' rfl rfl rfl (by repeat' (first | exact trivial | exact ⟨_,.refl _,rfl⟩ | exact ⟨_,.bp 12 0 2 c.row none rfl rfl (by simp [Column.row]) (.inr rfl),rfl⟩ | apply And.intro)) (.ci 4 (.ci 8 (.ci 301 (.ci 302 (.cons 51 rfl rfl (.refl _) (by rw [fillG_zero,hyl];rfl) .nil))))) rfl rfl (by rw [hK];rfl)⟩ ?_
    rintro m st ⟨x,hx,rfl,rfl⟩;have hfl:=fillG_len (ys:=ys) (x:=x) (by omega);have hfc:=cellRows_len (fillG ys x);refine gT (fun hb=>?_) fun hb=>?_
    ·have hxl:x<L.length:=by omega
     have hgr:=rowRows_get hxl;have hRO:=hrow _ (List.getElem_mem hxl);have hrx:=hrw _ (List.getElem_mem hxl);have hyx:ys[x]'(by omega)=c.cells.getD (L[x].getD i 0) cell0:=by simp [hy]
     have hset:=fillG_set (ys:=ys) (x:=x) (by omega);generalize L[x]=row at *;have hi1:i<row.length:=by have:=hRO.len;omega
     have hnr:=natRows_len row;have hxg:(natRows row)[i]?=some [.int .i64 ((row.getD i 0:Nat):Int)]:=by
      have e:row.getD i 0=row[i]:=by rw [List.getD_eq_getElem?_getD,List.getElem?_eq_getElem hi1];rfl
      rw [natRows_get hi1,e]
     have hcx:(cellRows c.cells)[row.getD i 0]?=some (ys[x]'(by omega)).row:=by
      rw [hyx,cellRows_get (by omega),List.getD_eq_getElem?_getD (l:=c.cells),List.getElem?_eq_getElem (by omega)];rfl
     generalize ys[x]'(by omega)=ce at *;generalize row.getD i 0=q at *;have hgf:=cellRows_get (l:=fillG ys x) (i:=x) (by omega);generalize (fillG ys x)[x]'(by omega)=c0 at hgf;refine g ?_;refine ⟨_,_,?_,⟨x+1,by omega,rfl,rfl⟩,[(4,4),(8,8),(301,301),(302,302),(303,303)],[],[],LeG.mq (.ci 4 (.ci 8 (.ci 301 (.ci 302 (.cons 303 rfl rfl (.refl _) (congrArg (fun r=>([Blk.rows 2 r (some [])]:List Blk)) (hset.symm.trans (by rw [Nat.zero_add,Int.toNat_natCast];rfl))) .nil)))))⟩;omega
    ·have hxe:x=ys.length:=by omega
     rw [hxe,fillG_all];have hyc:=cellRows_len ys;have hR1:=rfRows_len (R0++refsT t k);have hR2:=lnRows_len ((R0++refsT t k).map CR);rw [List.length_map] at hR2;have hR':R0++refsT t (k+1)=(R0++refsT t k)++[⟨t.id,(k:Int)⟩]:=by rw [hsk,List.append_assoc]
     refine gA ?_;refine gD rfl ?_;refine gG ?_;(conv=>whnf);refine W.leG (mp:=[(4,4),(8,8),(301,301),(302,302)]) (bo:=[303]) (st':=⟨[(4,.bp 4 0),(7,.sl (rowRows L) false),(8,.bp 8 0),(30,.sl (tblRows TS) false),(31,.int .i64 (tblRows TS).length),(32,.int .i64 (i:Nat)),(9,.int .i64 (i:Nat)),(10,.ro t.row 0),(38,.sl (colRows t.cols) false),(39,.int .i64 (colRows t.cols).length),(40,.int .i64 (k:Nat)),(11,.int .i64 (k:Nat)),(13,.sl (cellRows ys) false)],[(4,[.rows 5 [[.int .i64 0,.nils,.nils,.nils,.int .i64 0]] none]),(8,[.rows 5 [[.int .i64 p.start,.sl (stpRows p.steps) false,.osl 301 0 0 ((R0++refsT t k)).length ((R0++refsT t k)).length,.osl 302 0 0 ((R0++refsT t k)).length ((R0++refsT t k)).length,.int .i64 (L.length:Nat)]] none]),(301,[.rows 2 (rfRows ((R0++refsT t k))) (some [])]),(302,[.rows 1 (lnRows (((R0++refsT t k)).map CR)) (some [])])],[4,8,301,302]⟩)
      (LeG.mk' rfl rfl rfl (by repeat' (first | exact trivial | exact ⟨_,.refl _,rfl⟩ | exact ⟨_,Lent.whole rfl rfl (by omega) rfl (.inl rfl),rfl⟩ | apply And.intro)) (.ci 4 (.cons 8 rfl rfl (.refl _) (rfl) (.cons 301 rfl rfl (.refl _) (rfl) (.cons 302 rfl rfl (.refl _) (rfl) .nil)))) rfl rfl (by rw [hK];rfl)) ?_
     have hRa:(R0++refsT t k).length=R0.length+(refsT t k).length:=List.length_append;refine gGo ?_;refine ⟨⟨rowsSz_cons rfl rowsSz_nil,hR1.symm⟩,fitsN (n:=(R0++refsT t k).length+1) (b:=16) (by omega) (by omega),.inl ⟨rfl,rfl,?_⟩⟩;(conv=>whnf);refine gGo ?_;refine ⟨⟨rowsSz_cons rfl rowsSz_nil,hR2.symm⟩,fitsN (n:=(R0++refsT t k).length+1) (b:=24) (by omega) (by omega),.inl ⟨rfl,rfl,?_⟩⟩;(conv=>whnf);refine gGo ?_;refine ⟨_,_,?_,⟨k+1,by omega,rfl,rfl⟩,[(4,4),(8,8),(301,301),(302,302)],[],[],LeG.mq (.ci 4 (.cons 8 rfl rfl (.refl _) (congrArg (fun n=>([Blk.rows 5 [[.int .i64 p.start,.sl (stpRows p.steps) false,.osl 301 0 0 n n,.osl 302 0 0 n n,.int .i64 (L.length:Nat)]] none]:List Blk)) (show (R0++refsT t (k+1)).length=(R0++refsT t k).length+1 by rw [hR',List.length_append];rfl)) (.cons 301 rfl rfl (.refl _) (congrArg (fun r=>([Blk.rows 2 r (some [])]:List Blk)) (show rfRows (R0++refsT t (k+1))=rfRows (R0++refsT t k)++[Rf.row ⟨t.id,(k:Int)⟩] by rw [hR',rfRows_snoc])) (.cons 302 rfl rfl (.refl _) (congrArg (fun r=>([Blk.rows 1 r (some [])]:List Blk)) (show lnRows ((R0++refsT t (k+1)).map CR)=lnRows ((R0++refsT t k).map CR)++[lnV ys] by rw [hR',List.map_append,List.map_singleton,lnRows_snoc,←hys])) .nil))))⟩;omega
  ·have hke:k=t.cols.length:=by omega
   rw [hke];refine gGo ?_;refine ⟨_,_,?_,⟨i+1,by omega,rfl,rfl⟩,[(4,4),(8,8),(301,301),(302,302)],[],[],LeG.mq (.ci 4 (.cons 8 rfl rfl (.refl _) (by rw [hsu];rfl) (.cons 301 rfl rfl (.refl _) (by rw [hsu];rfl) (.cons 302 rfl rfl (.refl _) (by rw [hsu];rfl) .nil))))⟩;omega
 ·have hie:i=TS.length:=by omega
  rw [hie,refsI_all];have hR1:=rfRows_len (refsL TS);have hR2:=lnRows_len ((refsL TS).map CR);rw [List.length_map] at hR2;refine gA ?_;refine gD rfl ?_;refine gG ?_;(conv=>whnf);refine W.leG (mp:=[(4,4),(8,8)]) (bo:=[301,302]) (st':=⟨[(4,.bp 4 0),(8,.bp 8 0)],[(4,[.rows 5 [[.int .i64 0,.nils,.nils,.nils,.int .i64 0]] none]),(8,[.rows 5 [jnRow p (refsL TS) ((refsL TS).map CR) L.length] none])],[4,8]⟩)
   (LeG.mq (.ci 4 (.cons 8 (b1:=.rows 5 [jnRow p (refsL TS) ((refsL TS).map CR) L.length] none) rfl rfl (.rows _ _ _ ⟨⟨⟨.refl _,rfl⟩,⟨.refl _,rfl⟩,⟨Lent.whole rfl rfl hR1.symm rfl (.inl rfl),rfl⟩,⟨Lent.whole rfl rfl hR2.symm rfl (.inl rfl),rfl⟩,⟨.refl _,rfl⟩,trivial⟩,trivial⟩) rfl .nil))) ?_
  refine gGo ?_;(refine gM ?_;conv=>whnf);exact retH rfl (.refl _) rfl rfl rfl trivial
theorem lastT_get {p:Pth}(h:0<p.steps.length):lastT p=(p.steps[p.steps.length-1]).tt:=by
 unfold lastT;rw [List.getLastD_eq_getLast?,List.getLast?_eq_getElem?,List.length_map,List.getElem?_map,List.getElem?_eq_getElem (by omega)];rfl
theorem bothB_eq (p:Pth) (cs:List Rf):bothB p cs=(decide (p.steps.length=0)||(cs.any (isT p.start)&&cs.any (isT (lastT p)))):=rfl
set_option maxHeartbeats 4000000 in
theorem both_spec (p:Pth) (R:List Rf) (C:List (List Cell)) (n:Nat) (cs:List Rf):Spec Tryz.prog 98 [.agg (jnRow p R C n),.sl (rfRows cs) false] [] (.bool (bothB p cs)) []:=by
 have sp1:=both1_spec cs p.start;have sp2:=both1_spec cs (lastT p);have hsl:=stpRows_len p.steps;rw [bothB_eq];by_cases h0:p.steps.length=0
 ·rw [decide_eq_true h0];refine gEn env Tryz.func98 fun Γ hN hK hML=>?_;exact gR
 ·rw [decide_eq_false h0];have hl:=lastT_get (p:=p) (by omega);have hg:=stpRows_get (l:=p.steps) (i:=p.steps.length-1) (by omega);generalize p.steps[p.steps.length-1]'(by omega)=s at *;refine gEn env Tryz.func98 fun Γ hN hK hML=>?_;refine gA ?_;(refine gE env hN (by kernel_rfl) ?_;conv=>whnf);refine gGs ?_;refine W.leG (mp:=[]) (bo:=[2,3]) (st':=⟨[(2,.ro (jnRow p R C n) 0),(3,.ro [.sl (rfRows cs) false] 0)],[],[]⟩)
   (LeG.mk' rfl rfl rfl ⟨⟨_,.bp 2 0 5 (jnRow p R C n) none rfl rfl (by simp [jnRow]) (.inr rfl),rfl⟩,⟨_,.bp 3 0 1 [.sl (rfRows cs) false] none rfl rfl (by simp) (.inr rfl),rfl⟩,trivial⟩ .nil rfl rfl (by rw [hK];rfl)) ?_
  refine gGo ?_;intros;(refine gPC (sp1) ?_;conv=>whnf);cases h1:cs.any (isT p.start) with
  | false =>
   refine gGr ?_;exact ret0 rfl rfl rfl
  | true =>
   refine gGo ?_;intros;refine rowAt_of (r:=s.row) (by rw [show (((stpRows p.steps).length:Int)-1).toNat=p.steps.length-1 by omega];exact hg) ?_;(conv=>whnf);refine gGo ?_;rw [←hl];exact gR
end Go.Sx.Sp
