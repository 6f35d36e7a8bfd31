/- Candidate paths, and joining them. -/
import Derived.Test.YthlokmbefpjmgaaGreatDoorExFour
import Derived.Test.YthlokmbefpjmgaaGreatDoorRtFour
import Derived.Test.YthlokmbefpjmgaaGreatDoorSxFive
import Derived.Test.YthlokmbefpjmgaaGreatDoorExThree
import Derived.Test.YthlokmbefpjmgaaGreatDoorExOne
import Derived.Test.YthlokmbefpjmgaaGreatDoorSxFour
set_option linter.unusedVariables false
set_option linter.unusedSimpArgs false
set_option maxHeartbeats 16000000
namespace Go.Sx.Sp
open Go Go.Sx Go.Proofs Go.Sort
attribute [local irreducible] aO famL
theorem n8(q:Table):Spec Tryz.prog 17 [.agg q.row] [] (.int .i64 (exE q)) []:=by
 have sp:=rp q;have hcl:=aB q.cols;unfold exE;cases hv:aR q with
 |false =>
  rw[if_neg (by decide)];rw[hv] at sp;refine gEn env Tryz.func17 fun Γ hN hK hML=>?_;exact gR
 |true =>
  rw[if_pos rfl];rw[hv] at sp;by_cases h0:q.cols.length=0
  ·rw[if_pos (.inl h0)];refine gEn env Tryz.func17 fun Γ hN hK hML=>?_;exact gR
  ·by_cases h3:3<q.cols.length
   ·rw[if_pos (.inr h3)];refine gEn env Tryz.func17 fun Γ hN hK hML=>?_;exact gR
   ·rw[if_neg (by omega)];refine gEn env Tryz.func17 fun Γ hN hK hML=>?_;exact gR
theorem lj(q:Table):Spec Tryz.prog 18 [.agg q.row] [] (.int .i64 (exE q)) []:=by
 have sp:=iL q;have hcl:=aB q.cols;unfold exE;cases hv:aR q with
 |false =>
  rw[if_neg (by decide)];rw[hv] at sp;refine gEn env Tryz.func18 fun Γ hN hK hML=>?_;exact gR
 |true =>
  rw[if_pos rfl];rw[hv] at sp;by_cases h0:q.cols.length=0
  ·rw[if_pos (.inl h0)];refine gEn env Tryz.func18 fun Γ hN hK hML=>?_;exact gR
  ·by_cases h3:3<q.cols.length
   ·rw[if_pos (.inr h3)];refine gEn env Tryz.func18 fun Γ hN hK hML=>?_;exact gR
   ·rw[if_neg (by omega)];refine gEn env Tryz.func18 fun Γ hN hK hML=>?_;exact gR
theorem yq{H:Nat→List Blk}{bo:List Nat}{out:List Pth}{id:Int}{ks:Option (List Nat)}:BLent H bo (.rows 2 (ah out++[[.int .i64 id,.nils]]) ks) (.rows 2 (ah (out++[⟨id,[]⟩])) (some [])):=by
 refine .rowsF _ _ _ _ (by simp[ah]) fun i r1 hi=>?_;rw[gj] at hi;by_cases e:i<(ah out).length
 ·rw[List.getElem?_append_left e] at hi;refine⟨r1,by rw[List.getElem?_append_left e];exact hi,rfl,fun j v1 hj=>⟨v1,hj,.refl _,?_⟩⟩;unfold ah at hi;rw[List.getElem?_map,Option.map_eq_some_iff] at hi;obtain⟨x,_,rfl⟩:=hi;cases j with
  |zero=>cases hj;exact⟨rfl,rfl⟩
  |succ j=>cases j with
   |zero=>cases hj;exact⟨rfl,rfl⟩
   |succ j=>simp[Pth.row] at hj
 ·have e2:i=(ah out).length:=by
   have:=(List.getElem?_eq_some_iff.1 hi).1;rw[List.length_append,List.length_singleton] at this;omega
  subst e2;rw[List.getElem?_append_right (Nat.le_refl _),Nat.sub_self] at hi;cases hi;refine⟨[.int .i64 id,.nils],by rw[List.getElem?_append_right (Nat.le_refl _),Nat.sub_self];rfl,rfl,fun j v1 hj=>?_⟩;cases j with
  |zero=>cases hj;exact⟨_,rfl,.refl _,rfl,rfl⟩
  |succ j=>cases j with
   |zero=>cases hj;exact⟨_,rfl,.norm _,rfl,rfl⟩
   |succ j=>simp[Pth.row] at hj
theorem A3:∀ {l:List Table},ascB l=true→l.Pairwise fun a b=>a.id<b.id
 | [],_=>List.Pairwise.nil
 | [a],_=>List.pairwise_singleton _ _
 |a::b::l,h=>by
  have h:(decide (a.id<b.id)&&ascB (b::l))=true:=h;rw[Bool.and_eq_true,decide_eq_true_eq] at h;have ih:=A3 h.2;rw[List.pairwise_cons];refine⟨fun c hc=>?_,ih⟩;rcases List.mem_cons.1 hc with rfl|hc
  ·exact h.1
  ·have:=(List.pairwise_cons.1 ih).1 c hc;omega
theorem A4{l:List Table}(h:ascB l=true)(i j:Nat)(hi:i<l.length)(hj:j<l.length)(hij:i<j):l[i].id<l[j].id:=List.pairwise_iff_getElem.1 (A3 h) i j hi hj hij
theorem p9(a b:List Pth):ah (a++b)=ah a++ah b:=by simp[ah]
theorem n9(l:List Table)(E:List (List Int))(steps:Int)(hs:∀t∈l,j5 t)(h11:∀r∈E,ky r)(hE:E.length≤1000000):Spec Tryz.prog 15 [.sl (aa l) false,.sl (aA E) false,.int .i64 steps] [] (.tup [.sl (ah (bK l E steps).1) false,.int .i64 (bK l E steps).2]) []:=by
 have sp:=rz l;have hll:=aP l;have spN:=vV l E hs h11 hE;unfold bK;cases hl:bO l with
 |false =>
  rw[if_neg (by decide)];rw[hl] at sp;refine gEn env Tryz.func15 fun Γ hN hK hML=>?_;exact gR
 |true =>
  rw[if_pos rfl];rw[hl] at sp;by_cases h0:0≤steps
  ·by_cases h4:steps≤4
   ·rw[if_pos ⟨h0,h4⟩];obtain⟨n,rfl⟩:∃n:Nat,steps=n:=⟨steps.toNat,by omega⟩
    rw[Int.toNat_natCast];have hasc:ascB l=true:=by unfold bO at hl;rw[Bool.and_eq_true] at hl;exact hl.1
    have hlt:=A4 hasc;have hd:(l.map Table.id).Nodup:=by
     rw[List.nodup_iff_pairwise_ne,List.pairwise_map,List.pairwise_iff_getElem];intro i j hi hj hij e;have:=hlt i j hi hj hij;omega
    rw[←EA hd];generalize hX:iT l E n l []=X;have hsort:∀o:List Pth,o.length≤1024→_:=fun o ho=>iA o (by omega);have spW:=fun(a b:Int) (e:Nat) (he:e≤1000000)=>zR l E a b n e hE (by omega) he;generalize f8 l (bh E)=M at *;refine gEn env Tryz.func15 fun Γ hN hK hML=>?_;(refine g ?_;intros);refine W.ownNil 9 91 2 rfl rfl ?_;refine W.loopG (fun m st=>∃(i:Nat) (out:List Pth),i≤l.length∧X=iT l E n (l.drop i) out∧out.length≤1024∧(i=0→out.length=0)∧m=l.length-i∧st=⟨[(0,.sl (aa l) false),(2,.int .i64 (n:Nat)),(8,.dmap (mkD (ep M))),(9,.osl 91 0 0 (ah (out)).length (ah (out)).length),(28,.sl (aa l) false),(29,.int .i64 (aa l).length),(30,.int .i64 (i:Nat))],[(91,[.rows 2 (ah (out)) (some [])])],[91]⟩)
     l.length _ ⟨0,[],by omega,by rw[List.drop_zero,hX],by simp,fun _=>rfl,by omega,rfl⟩ gX ?_
    rintro m st ⟨i,out,hi,hex,ho,hoz,rfl,rfl⟩;have hpl:=ba out;refine gT (fun hb=>?_) fun hb=>?_
    ·have hil:i<l.length:=by omega
     have hg:=bi hil;rw[List.drop_eq_getElem_cons hil] at hex;have hlta:=fun j (hj:j<l.length) (h:j<i)=>hlt j i hj hil h;generalize l[i]=a at *;refine g ?_;refine⟨⟨ao rfl au,rfl⟩,bc (n:=(ah out).length+1) (b:=32) (by omega) (by omega),.inl ⟨rfl,rfl,?_⟩⟩;(conv=>whnf);refine gGo ?_;intros;refine W.leG (mp:=[(91,91)]) (bo:=[11]) (st':=⟨[(0,.sl (aa l) false),(2,.int .i64 (n:Nat)),(8,.dmap (mkD (ep M))),(9,.osl 91 0 0 (ah ((out++[⟨a.id,[]⟩]))).length (ah ((out++[⟨a.id,[]⟩]))).length),(28,.sl (aa l) false),(29,.int .i64 (aa l).length),(30,.int .i64 (i:Nat)),(11,.ro a.row 0),(40,.sl (aa l) false),(41,.int .i64 (aa l).length),(42,.int .i64 (0:Nat))],[(91,[.rows 2 (ah ((out++[⟨a.id,[]⟩]))) (some [])])],[91]⟩)
      (LeG.mk' rfl rfl rfl (by rw[gj,List.length_append];repeat' (first|exact trivial|exact⟨_,.refl _,rfl⟩|exact⟨_,.bp 11 0 3 a.row none rfl rfl (by simp[Table.row]) (.inr rfl),rfl⟩|apply And.intro)) (.cons 91 rfl rfl yq rfl .nil) rfl rfl (by rw[hK];rfl)) ?_
     have hex2:X=(exIn l E n a (l.drop 0) (out++[⟨a.id,[]⟩])).bind (iT l E n (l.drop (i+1))):=by rw[List.drop_zero];exact hex
     have ho0:(out++[⟨a.id,[]⟩]:List Pth).length≤1025∧((out++[⟨a.id,[]⟩]:List Pth).length≤1024∨0=0∧0<i):=by
      rw[List.length_append,List.length_singleton];refine⟨by omega,?_⟩;rcases Nat.eq_zero_or_pos i with h|h
      ·have:=hoz h;exact .inl (by omega)
      ·exact .inr ⟨rfl,h⟩
     generalize (out++[⟨a.id,[]⟩]:List Pth)=out1 at *;refine W.loopG (fun m st=>∃(j:Nat) (out:List Pth),j≤l.length∧X=(exIn l E n a (l.drop j) out).bind (iT l E n (l.drop (i+1)))∧(out.length≤1025∧(out.length≤1024∨j=0∧0<i))∧m=l.length-j∧st=⟨[(0,.sl (aa l) false),(2,.int .i64 (n:Nat)),(8,.dmap (mkD (ep M))),(9,.osl 91 0 0 (ah (out)).length (ah (out)).length),(28,.sl (aa l) false),(29,.int .i64 (aa l).length),(30,.int .i64 (i:Nat)),(11,.ro a.row 0),(40,.sl (aa l) false),(41,.int .i64 (aa l).length),(42,.int .i64 (j:Nat))],[(91,[.rows 2 (ah (out)) (some [])])],[91]⟩)
      l.length _ ⟨0,out1,by omega,hex2,ho0,by omega,rfl⟩ gX ?_
     clear ho0 hex2 hex;rintro m st ⟨j,out,hj,hex,⟨ho1,ho2⟩,rfl,rfl⟩;have hpl:=ba out;refine gT (fun hb=>?_) fun hb=>?_
     ·have hjl:j<l.length:=by omega
      have hg:=bi hjl;rw[List.drop_eq_getElem_cons hjl] at hex;have hb0:j=0→0<i→¬a.id<l[j].id:=fun h1 h2 h3=>by
       subst h1;have:=hlta 0 hjl h2;omega
      generalize l[j]=b at *;rw[show exIn l E n a (b::l.drop (j+1)) out=if 1024<(if a.id<b.id then out++f9 l E a.id b.id n (1024-out.length) else out).length then none else exIn l E n a (l.drop (j+1)) (if a.id<b.id then out++f9 l E a.id b.id n (1024-out.length) else out) from rfl] at hex;refine g ?_;by_cases hab:a.id<b.id
      ·rw[if_pos hab] at hex;have hoe:out.length≤1024:=by
        rcases ho2 with h|⟨h1,h2⟩
        ·exact h
        ·exact absurd hab (hb0 h1 h2)
       have sw:=spW a.id b.id (1024-out.length) (by omega);rw[show((1024-out.length:Nat):Int)=1024-((ah out).length:Int) by omega] at sw;have hfl:=uG l E a.id b.id n (1024-out.length);have hapl:(out++f9 l E a.id b.id n (1024-out.length)).length=out.length+(f9 l E a.id b.id n (1024-out.length)).length:=List.length_append;generalize f9 l E a.id b.id n (1024-out.length)=F at *;have hFl:=ba F;(refine g ?_;intros);refine⟨⟨dE _,rfl⟩,bc (n:=(ah out).length+(ah F).length) (b:=32) (by omega) (by omega),.inl ⟨rfl,rfl,?_⟩⟩;(conv=>whnf);refine gGo ?_;refine And.intro (List.length_append).symm fun _=>?_;(conv=>whnf);refine gT (fun hb=>?_) fun hb=>?_
       ·have hXn:X=none:=by(try dsimp only at hb);rw[hex,if_pos (by omega)];rfl
        rw[hXn];exact gR
       ·(try dsimp only at hb);rw[if_neg (by omega)] at hex
        refine gGo ?_;refine⟨_,_,?_,⟨j+1,out++F,by omega,hex,⟨by omega,.inl (by omega)⟩,rfl,rfl⟩,[(91,91)],[],[],LeG.mk' rfl rfl rfl (by rw[p9,List.length_append];exact(by repeat' (first|exact trivial|exact⟨_,.refl _,rfl⟩|apply And.intro))) (.cons 91 rfl rfl (.refl _) (by rw[p9];rfl) .nil) rfl rfl (by rw[hK];rfl)⟩;omega
      ·rw[if_neg hab] at hex;refine gT (fun hb=>?_) fun hb=>?_
       ·have hXn:X=none:=by(try dsimp only at hb);rw[hex,if_pos (by omega)];rfl
        rw[hXn];exact gR
       ·(try dsimp only at hb);rw[if_neg (by omega)] at hex
        refine gGo ?_;intros;exact gZ ⟨j+1,out,by omega,hex,⟨by omega,.inl (by omega)⟩,rfl,rfl⟩
     ·have hje:j=l.length:=by omega
      have hex:X=iT l E n (l.drop (i+1)) out:=by rw[hje,List.drop_length] at hex;exact hex
      refine gGo ?_;exact gZ ⟨i+1,out,by omega,hex,by omega,by omega,rfl,rfl⟩
    ·have hie:i=l.length:=by omega
     have hex:X=some out:=by rw[hie,List.drop_length] at hex;exact hex
     have spS:=iA out (by omega);have hsl:=ba (bw ordC out);rw[bX] at hsl;rw[hex];refine gGo ?_;(refine⟨_,_,_,cW [(0,91)] [] [] rfl rfl rfl (by kernel_rfl) (spS) (by repeat' (first|exact trivial|exact Lent.refl _|exact Lent.norm _|exact Lent.whole rfl rfl (by first|rfl|exact List.length_append.symm|exact hlenR|simp) rfl (by first|exact .inl rfl|exact .inr rfl)|apply And.intro)) rfl ⟨rfl,rfl,rfl,rfl,rfl,by repeat' (first|exact trivial|rfl|apply And.intro),rfl,rfl⟩,?_⟩;conv=>whnf)
     refine gGo ?_;refine W.leG (mp:=[]) (bo:=[91]) (st':=⟨[(6,.sl (ah (bw ordC out)) false),(7,.int .i64 0)],[],[]⟩)
      (LeG.mk' rfl rfl rfl ⟨⟨_,Lent.whole rfl rfl (by omega) rfl (.inl rfl),rfl⟩,⟨_,.refl _,rfl⟩,trivial⟩ .nil rfl rfl (by rw[hK];rfl)) ?_
     (refine gM ?_;conv=>whnf);exact ret0 rfl rfl rfl
   ·rw[if_neg (by omega)];refine gEn env Tryz.func15 fun Γ hN hK hML=>?_;exact gR
  ·rw[if_neg (by omega)];refine gEn env Tryz.func15 fun Γ hN hK hML=>?_;exact gR
theorem qa:∀(ts:List Table) (out:List Pth),(c9 ts out).length≤out.length+ts.length
 | [],out=>Nat.le_refl _
 |t::ts,out=>by
  have h1:=qa ts (putZ ordC out ⟨t.id,[]⟩);have h2:=(nF ordC out ⟨t.id,[]⟩).2;show(c9 ts _).length≤_;rw[List.length_cons];omega
theorem lk(l:List Table)(E:List (List Int))(steps:Int)(h11:∀r∈E,ky r)(hE:E.length≤100):Spec Tryz.prog 16 [.sl (aa l) false,.sl (aA E) false,.int .i64 steps] [] (.tup [.sl (ah (bK l E steps).1) false,.int .i64 (bK l E steps).2]) []:=by
 have sp:=fZ l;have hll:=aP l;unfold bK;cases hl:bO l with
 |false =>
  rw[if_neg (by decide)];rw[hl] at sp;refine gEn env Tryz.func16 fun Γ hN hK hML=>?_;exact gR
 |true =>
  rw[if_pos rfl];rw[hl] at sp;by_cases h0:0≤steps
  ·by_cases h4:steps≤4
   ·rw[if_pos ⟨h0,h4⟩];obtain⟨n,rfl⟩:∃n:Nat,steps=n:=⟨steps.toNat,by omega⟩
    rw[Int.toNat_natCast];have hasc:ascB l=true:=by unfold bO at hl;rw[Bool.and_eq_true] at hl;exact hl.1
    have hl1024:l.length≤1024:=by unfold bO at hl;simp only[Bool.and_eq_true,decide_eq_true_eq] at hl;exact hl.2.1
    have hlt:=A4 hasc;have hd:(l.map Table.id).Nodup:=by
     rw[List.nodup_iff_pairwise_ne,List.pairwise_map,List.pairwise_iff_getElem];intro i j hi hj hij e;have:=hlt i j hi hj hij;omega
    rw[←CB hl hd (Ef hl)];generalize hX:kn l E n l (c9 l [])=X;generalize hS:c9 l []=S at *;have hSl:S.length≤1024:=by rw[←hS];have:=qa l [];simp at this;omega
    refine gEn env Tryz.func16 fun Γ hN hK hML=>?_;(refine g ?_;intros);refine W.loopG (fun m st=>∃(i:Nat) (out:List Pth),i≤l.length∧S=c9 (l.drop i) out∧out.length≤i∧m=l.length-i∧st=⟨[(0,.sl (aa l) false),(1,.sl (aA E) false),(2,.int .i64 (n:Nat)),(8,.sl (ah out) false),(24,.sl (aa l) false),(25,.int .i64 (aa l).length),(26,.int .i64 (i:Nat))],[],[]⟩)
     l.length _ ⟨0,[],by omega,by rw[List.drop_zero,hS],by simp,by omega,rfl⟩ ⟨[],[],[],LeG.mk' rfl rfl rfl (by repeat' (first|exact trivial|exact⟨_,.refl _,rfl⟩|exact⟨_,.norm _,rfl⟩|apply And.intro)) .nil rfl rfl (by rw[hK];rfl)⟩ ?_
    rintro m st ⟨i,out,hi,hst,ho,rfl,rfl⟩;refine gT (fun hb=>?_) fun hb=>?_
    ·have hil:i<l.length:=by omega
     have hg:=bi hil;rw[List.drop_eq_getElem_cons hil] at hst;generalize l[i]=a at *;have spP:=km out ⟨a.id,[]⟩ (by omega);have hst:S=c9 (l.drop (i+1)) (putZ ordC out ⟨a.id,[]⟩):=hst;have hpz:=(nF ordC out ⟨a.id,[]⟩).2;generalize putZ ordC out ⟨a.id,[]⟩=o1 at *;refine gGo ?_;refine al (by simpa using hg) ?_;(conv=>whnf);refine gGo ?_;(refine⟨_,_,_,cW [] [] [] rfl rfl rfl (by kernel_rfl) (spP) (by refine⟨.refl _,Lent.row ?_,trivial⟩;repeat' (first|exact trivial|exact⟨Lent.refl _,rfl⟩|exact⟨Lent.norm _,rfl⟩|apply And.intro)) rfl ⟨rfl,rfl,rfl,rfl,rfl,by repeat' (first|exact trivial|rfl|apply And.intro),rfl,rfl⟩,?_⟩;conv=>whnf)
     refine gGo ?_;refine⟨_,_,?_,⟨i+1,o1,by omega,hst,by omega,rfl,rfl⟩,[],[10],[],LeG.mq .nil⟩;omega
    ·have hie:i=l.length:=by omega
     have hst:S=out:=by rw[hie,List.drop_length] at hst;exact hst
     subst hst;refine gGo ?_;intros;refine W.loopG (fun m st=>∃(i:Nat) (out:List Pth),i≤l.length∧X=kn l E n (l.drop i) out∧out.length≤1024∧m=l.length-i∧st=⟨[(0,.sl (aa l) false),(1,.sl (aA E) false),(2,.int .i64 (n:Nat)),(8,.sl (ah out) false),(36,.sl (aa l) false),(37,.int .i64 (aa l).length),(38,.int .i64 (i:Nat))],[],[]⟩)
      l.length _ ⟨0,S,by omega,by rw[List.drop_zero,hX],hSl,by omega,rfl⟩ gX ?_
     rintro m st ⟨i,out,hi,hst,ho,rfl,rfl⟩;refine gT (fun hb=>?_) fun hb=>?_
     ·have hil:i<l.length:=by omega
      have hg:=bi hil;rw[List.drop_eq_getElem_cons hil] at hst;generalize l[i]=a at *;have hpw:out.length+(E.length+1) ^ n≤1000000000:=by
       have h1:(E.length+1) ^ n≤101 ^ n:=Nat.pow_le_pow_left (by omega) n;have h2:101 ^ n≤101 ^ 4:=Nat.pow_le_pow_right (by omega) (by omega);have h3:(101:Nat) ^ 4≤900000000:=by decide
       omega
      have spW:Spec Tryz.prog 38 [.sl (aa l) false,.sl (aA E) false,.agg (Pth.row ⟨a.id,[]⟩),.int .i64 a.id,.int .i64 (-1),.int .i64 (n:Nat),.sl (ah out) false] [] (.sl (ah (p5 l E n a out)) false) []:=
       x9 l E (-1) n h11 (by omega) (by omega) n ⟨a.id,[]⟩ a.id out (by simp) hpw
      have hst:X=if 1024<(p5 l E n a out).length then none else kn l E n (l.drop (i+1)) (p5 l E n a out):=hst
      generalize p5 l E n a out=o1 at *;have hol:=ba o1;refine gGo ?_;refine al (by simpa using hg) ?_;(conv=>whnf);refine gGo ?_;(refine⟨_,_,_,cW [] [] [] rfl rfl rfl (by kernel_rfl) (spW) (by refine⟨.refl _,.refl _,Lent.row ?_,.refl _,.refl _,.refl _,.refl _,trivial⟩;repeat' (first|exact trivial|exact⟨Lent.refl _,rfl⟩|exact⟨Lent.norm _,rfl⟩|apply And.intro)) rfl ⟨rfl,rfl,rfl,rfl,rfl,by repeat' (first|exact trivial|rfl|apply And.intro),rfl,rfl⟩,?_⟩;conv=>whnf)
      by_cases h9:1024<o1.length
      ·rw[if_pos h9] at hst;rw[hst];exact gR
      ·rw[if_neg h9] at hst;refine gGo ?_;intros;refine⟨_,_,?_,⟨i+1,o1,by omega,hst,by omega,rfl,rfl⟩,[],[12],[],LeG.mq .nil⟩;omega
     ·have hie:i=l.length:=by omega
      have hst:X=some out:=by rw[hie,List.drop_length] at hst;exact hst
      rw[hst];refine gGo ?_;(refine gM ?_;conv=>whnf);exact ret0 rfl rfl rfl
   ·rw[if_neg (by omega)];refine gEn env Tryz.func16 fun Γ hN hK hML=>?_;exact gR
  ·rw[if_neg (by omega)];refine gEn env Tryz.func16 fun Γ hN hK hML=>?_;exact gR
def ntN(c:Cell):Bool:=!c.null
theorem Af(c:Cell):Spec Tryz.prog 95 [.agg c.row] [] (.bool (ntN c)) []:=by
 obtain⟨b,s⟩:=c;unfold ntN;cases b with
 |true =>
  refine gEn env Tryz.func95 fun Γ hN hK hML=>?_;exact gR
 |false =>
  refine gEn env Tryz.func95 fun Γ hN hK hML=>?_;exact gR
theorem yr(l:List Cell):Spec Tryz.prog 143 [.sl (aj l) false,.fn 95 []] [] (.int .i64 (bD (ntN) l 0)) []:=by
 have hrl:(aj l).length=l.length:=by simp[aj]
 refine gEn env Tryz.func143 fun Γ hN hK hML=>?_;refine gGo ?_;intros;refine W.loopG (fun n st=>∃k:Nat,k≤l.length∧bD (ntN) l 0=bD (ntN) (l.drop k) k∧n=l.length-k∧st=⟨[(0,.sl (aj l) false),(1,.fn 95 []),(7,.int .i64 (aj l).length),(8,.int .i64 k)],[],[]⟩)
  l.length _ ⟨0,by omega,rfl,by omega,rfl⟩ gX ?_
 rintro n st ⟨k,hk,hix,rfl,rfl⟩;refine gT (fun hb=>?_) fun hb=>?_
 ·have hlt:k<l.length:=by omega
  have hx:(aj l)[k]?=some (l[k]).row:=by simp[aj,hlt]
  have sp:=Af l[k];rw[List.drop_eq_getElem_cons hlt] at hix;generalize l[k]=x at *;simp only[bD] at hix;refine g ?_;cases hb2:(ntN) x with
  |true =>
   rw[hb2] at sp hix;refine g ?_;refine gGr ?_;exact ret0 rfl (congrArg (V.int .i64) (by rw[hix];rfl)) rfl
  |false =>
   rw[hb2] at sp hix;refine g ?_;refine⟨_,_,?_,⟨k+1,by omega,?_,rfl,rfl⟩,gX⟩
   ·omega
   ·rw[hix];rfl
 ·have hke:k=l.length:=by omega
  rw[hke,List.drop_length] at hix;refine gGr ?_;exact ret0 rfl (congrArg (V.int .i64) (by rw[hix];rfl)) rfl
theorem Ag(l:List Cell):Spec Tryz.prog 94 [.sl (aj l) false,.fn 95 []] [] (.bool (l.any (ntN))) []:=by
 have sp:=yr l;have hn:=eh (ntN) l 0;generalize bD (ntN) l 0=x at *;generalize l.any (ntN)=b at *;cases b with
 |true =>
  have hx:0≤x:=hn.2 rfl;refine gEn env Tryz.func94 fun Γ hN hK hML=>?_;exact gR
 |false =>
  have hx:¬0≤x:=fun h=>by cases hn.1 h
  refine gEn env Tryz.func94 fun Γ hN hK hML=>?_;exact gR
theorem CD(c:Column):yo c=c.cells.any ntN:=rfl
def isT(id:Int)(r:Rf):Bool:=decide (r.t=id)
theorem Ai(id:Int)(r:Rf):Spec Tryz.prog 147 [.agg r.row,.ro [.int .i64 id] 0] [] (.bool (isT id r)) []:=by
 unfold isT;by_cases h:r.t=id
 ·rw[decide_eq_true h];refine gEn env Tryz.func147 fun Γ hN hK hML=>?_;exact gR
 ·rw[decide_eq_false h];refine gEn env Tryz.func147 fun Γ hN hK hML=>?_;exact gR
theorem yu(id:Int)(l:List Rf):Spec Tryz.prog 183 [.sl (ap l) false,.fn 147 [.ro [.int .i64 id] 0]] [] (.int .i64 (bD (isT id) l 0)) []:=by
 have hrl:(ap l).length=l.length:=by simp[ap]
 refine gEn env Tryz.func183 fun Γ hN hK hML=>?_;refine gGo ?_;intros;refine W.loopG (fun n st=>∃k:Nat,k≤l.length∧bD (isT id) l 0=bD (isT id) (l.drop k) k∧n=l.length-k∧st=⟨[(0,.sl (ap l) false),(1,.fn 147 [.ro [.int .i64 id] 0]),(7,.int .i64 (ap l).length),(8,.int .i64 k)],[],[]⟩)
  l.length _ ⟨0,by omega,rfl,by omega,rfl⟩ gX ?_
 rintro n st ⟨k,hk,hix,rfl,rfl⟩;refine gT (fun hb=>?_) fun hb=>?_
 ·have hlt:k<l.length:=by omega
  have hx:(ap l)[k]?=some (l[k]).row:=by simp[ap,hlt]
  have sp:=Ai id l[k];rw[List.drop_eq_getElem_cons hlt] at hix;generalize l[k]=x at *;simp only[bD] at hix;refine g ?_;cases hb2:(isT id) x with
  |true =>
   rw[hb2] at sp hix;refine g ?_;refine gGr ?_;exact ret0 rfl (congrArg (V.int .i64) (by rw[hix];rfl)) rfl
  |false =>
   rw[hb2] at sp hix;refine g ?_;refine⟨_,_,?_,⟨k+1,by omega,?_,rfl,rfl⟩,gX⟩
   ·omega
   ·rw[hix];rfl
 ·have hke:k=l.length:=by omega
  rw[hke,List.drop_length] at hix;refine gGr ?_;exact ret0 rfl (congrArg (V.int .i64) (by rw[hix];rfl)) rfl
theorem Aj(id:Int)(l:List Rf):Spec Tryz.prog 146 [.sl (ap l) false,.fn 147 [.ro [.int .i64 id] 0]] [] (.bool (l.any (isT id))) []:=by
 have sp:=yu id l;have hn:=eh (isT id) l 0;generalize bD (isT id) l 0=x at *;generalize l.any (isT id)=b at *;cases b with
 |true =>
  have hx:0≤x:=hn.2 rfl;refine gEn env Tryz.func146 fun Γ hN hK hML=>?_;exact gR
 |false =>
  have hx:¬0≤x:=fun h=>by cases hn.1 h
  refine gEn env Tryz.func146 fun Γ hN hK hML=>?_;exact gR
theorem sS(cs:List Rf)(id:Int):Spec Tryz.prog 145 [.int .i64 id,.ro [.sl (ap cs) false] 0] [] (.bool (cs.any (isT id))) []:=by
 have sp:=Aj id cs;generalize cs.any (isT id)=b at *;refine gEn env Tryz.func145 fun Γ hN hK hML=>?_;refine gA ?_;(refine gE env hN (by kernel_rfl) ?_;conv=>whnf);refine gGs ?_;refine W.leG (mp:=[]) (bo:=[2]) (st':=⟨[(1,.ro [.sl (ap cs) false] 0),(2,.ro [.int .i64 id] 0)],[],[]⟩)
  (LeG.mk' rfl rfl rfl ⟨⟨_,.refl _,rfl⟩,⟨_,.bp 2 0 1 [.int .i64 id] none rfl rfl (by simp) (.inr rfl),rfl⟩,trivial⟩ .nil rfl rfl (by rw[hK];rfl)) ?_
 exact gR
structure KeyedB (es:List (Nat×V×V)) (L:List Str):Prop where
 ks:es.map (fun p=>p.2)=L.map fun s=>(V.str s,V.bool true)
theorem qb{t:Str}:∀(L:List Str) (es:List (Nat×V×V)),es.map (fun p=>p.2)=L.map (fun s=>(V.str s,V.bool true))→(t∈L→∃(j b:Nat),aZ (.str t) es=some (some (j,b,.bool true))∧L[j]?=some t)∧(t∉L→aZ (.str t) es=some none):=by
 intro L
 induction L with
 |nil =>
  intro es h;have:es=[]:=by simpa using h
  subst this;exact⟨fun h=>(by cases h),fun _=>rfl⟩
 |cons s L ih =>
  intro es h;cases es with
  |nil=>simp at h
  |cons p es =>
   obtain⟨b,k,v⟩:=p;simp only[List.map_cons,List.cons.injEq,Prod.mk.injEq] at h;obtain⟨⟨rfl,rfl⟩,ht⟩:=h;obtain⟨i1,i2⟩:=ih es ht;by_cases e:t=s
   ·subst e;exact⟨fun _=>⟨0,b,by simp[aZ,cV],rfl⟩,fun h=>absurd List.mem_cons_self h⟩
   ·have he:cV (.str t) (.str s)=some false:=by simp[cV,e]
    refine⟨fun h=>?_,fun h=>?_⟩
    ·obtain⟨j,b',q1,q2⟩:=i1 (by simpa[e] using h);exact⟨j+1,b',by simp[aZ,he,q1],by simpa using q2⟩
    ·have:=i2 (by simp at h;exact h.2);simp[aZ,he,this]
theorem KeyedB.yes{es:List (Nat×V×V)}{L:List Str}(h:KeyedB es L){t:Str}(ht:t∈L):∃(j b:Nat),aZ (.str t) es=some (some (j,b,.bool true))∧L[j]?=some t:=(qb L es h.ks).1 ht
theorem KeyedB.no{es:List (Nat×V×V)}{L:List Str}(h:KeyedB es L){t:Str}(ht:t∉L):aZ (.str t) es=some none:=(qb L es h.ks).2 ht
theorem KeyedB.set{es:List (Nat×V×V)}{L:List Str}(h:KeyedB es L){t:Str}{j:Nat}(hj:L[j]?=some t)(b:Nat):KeyedB (es.set j (b,.str t,.bool true)) L:=by
 refine⟨?_⟩;rw[List.map_set,h.ks];exact wM (by simp[hj])
theorem KeyedB.snoc{es:List (Nat×V×V)}{L:List Str}(h:KeyedB es L)(t:Str)(c:Nat):KeyedB (es++[(c,.str t,.bool true)]) (L++[t]):=⟨by simp[h.ks]⟩
def kA(L:List Str)(c:Cell):Bool:=!c.null&&!decide (c.text∈L)
def hasH(es:List (Nat×V×V))(ck:Nat):List (Nat×Blk):=[(90,.rows 1 [[.omap 91 0]] none),(91,.map es ck (some []))]
theorem wh{es:List (Nat×V×V)}{L:List Str}(hes:KeyedB es L)(ck:Nat)(c:Cell):Spec Tryz.prog 144 [.agg c.row,.bp 90 0] (hasH es ck) (.bool (kA L c)) (hasH es ck):=by
 obtain⟨nl,tx⟩:=c;unfold kA hasH;cases nl with
 |true =>
  refine gEn env Tryz.func144 fun Γ hN hK hML=>?_;refine gGo ?_;(refine gM ?_;conv=>whnf);exact retH rfl (.refl _) rfl rfl rfl ⟨rfl,rfl,rfl,rfl,trivial⟩
 |false =>
  by_cases hm:tx∈L
  ·obtain⟨i2,b,q1,q2⟩:=hes.yes hm;rw[decide_eq_true hm];refine gEn env Tryz.func144 fun Γ hN hK hML=>?_;refine gGo ?_;refine bl (by kernel_rfl) ?_;(conv=>whnf);refine⟨_,q1,?_⟩;(conv=>whnf);refine gGo ?_;(refine gM ?_;conv=>whnf);exact retH rfl (.refl _) rfl rfl rfl ⟨rfl,rfl,rfl,rfl,trivial⟩
  ·rw[decide_eq_false hm];refine gEn env Tryz.func144 fun Γ hN hK hML=>?_;refine gGo ?_;refine bl (by kernel_rfl) ?_;(conv=>whnf);refine⟨_,hes.no hm,?_⟩;(conv=>whnf);refine gGo ?_;(refine gM ?_;conv=>whnf);exact retH rfl (.refl _) rfl rfl rfl ⟨rfl,rfl,rfl,rfl,trivial⟩
theorem yv{es:List (Nat×V×V)}{L:List Str}(hes:KeyedB es L)(ck:Nat)(l:List Cell):Spec Tryz.prog 143 [.sl (aj l) false,.fn 144 [.bp 90 0]] (hasH es ck) (.int .i64 (bD (kA L) l 0)) (hasH es ck):=by
 have hrl:(aj l).length=l.length:=by simp[aj]
 have sp0:=fun c=>wh hes ck c;unfold hasH at sp0 ⊢;refine gEn env Tryz.func143 fun Γ hN hK hML=>?_;refine gGo ?_;intros;refine W.loopG (fun n st=>∃k:Nat,k≤l.length∧bD (kA L) l 0=bD (kA L) (l.drop k) k∧n=l.length-k∧st=⟨[(0,.sl (aj l) false),(1,.fn 144 [.bp 90 0]),(7,.int .i64 (aj l).length),(8,.int .i64 k)],[(90,[.rows 1 [[.omap 91 0]] none]),(91,[.map es ck (some [])])],[90,91]⟩)
  l.length _ ⟨0,by omega,rfl,by omega,rfl⟩ gX ?_
 rintro n st ⟨k,hk,hix,rfl,rfl⟩;refine gT (fun hb=>?_) fun hb=>?_
 ·have hlt:k<l.length:=by omega
  have hx:(aj l)[k]?=some (l[k]).row:=by simp[aj,hlt]
  have sp:=sp0 l[k];rw[List.drop_eq_getElem_cons hlt] at hix;generalize l[k]=x at *;simp only[bD] at hix;refine g ?_;cases hb2:kA L x with
  |true =>
   rw[hb2] at sp hix;rw[hix];(refine gCA [(90,90),(91,91)] [] [] (sp) ?_;conv=>whnf);refine gGo ?_;(refine gM ?_;conv=>whnf);exact retH rfl (.refl _) rfl rfl rfl ⟨rfl,rfl,rfl,rfl,trivial⟩
  |false =>
   rw[hb2] at sp hix;(refine gCA [(90,90),(91,91)] [] [] (sp) ?_;conv=>whnf);refine gGo ?_;refine⟨_,_,?_,⟨k+1,by omega,?_,rfl,rfl⟩,gX⟩
   ·omega
   ·rw[hix];rfl
 ·have hke:k=l.length:=by omega
  rw[hke,List.drop_length] at hix;rw[hix];refine gGo ?_;(refine gM ?_;conv=>whnf);exact retH rfl (.refl _) rfl rfl rfl ⟨rfl,rfl,rfl,rfl,trivial⟩
theorem Ak{es:List (Nat×V×V)}{L:List Str}(hes:KeyedB es L)(ck:Nat)(l:List Cell):Spec Tryz.prog 94 [.sl (aj l) false,.fn 144 [.bp 90 0]] (hasH es ck) (.bool (l.any (kA L))) (hasH es ck):=by
 have sp:=yv hes ck l;have hn:=eh (kA L) l 0;unfold hasH at sp ⊢;generalize bD (kA L) l 0=x at *;generalize l.any (kA L)=b at *;cases b with
 |true =>
  have hx:0≤x:=hn.2 rfl;refine gEn env Tryz.func94 fun Γ hN hK hML=>?_;refine gGo ?_;(refine gCA [(90,90),(91,91)] [] [] (sp) ?_;conv=>whnf);refine gGo ?_;(refine gM ?_;conv=>whnf);exact retH rfl (.refl _) rfl rfl rfl ⟨rfl,rfl,rfl,rfl,trivial⟩
 |false =>
  have hx:¬0≤x:=fun h=>by cases hn.1 h
  refine gEn env Tryz.func94 fun Γ hN hK hML=>?_;refine gGo ?_;(refine gCA [(90,90),(91,91)] [] [] (sp) ?_;conv=>whnf);refine gGo ?_;(refine gM ?_;conv=>whnf);exact retH rfl (.refl _) rfl rfl rfl ⟨rfl,rfl,rfl,rfl,trivial⟩
def yw(cs:List Cell):List Str:=(cs.filter ntN).map Cell.text
theorem yx(cells:List Cell)(c:Column){L:List Str}(hL:∀s,s∈L↔s∈yw cells):dT cells c=!c.cells.any (kA L):=by
 unfold dT;rw[List.not_any_eq_all_not];refine congrArg (fun f=>c.cells.all f) (funext fun x=>?_);unfold kA;cases hx:x.null with
 |true=>rfl
 |false =>
  simp only[Bool.false_or,Bool.not_false,Bool.true_and,Bool.not_not];rw[Bool.eq_iff_iff,List.any_eq_true,decide_eq_true_eq,hL];unfold yw ntN;rw[List.mem_map];simp only[List.mem_filter,Bool.and_eq_true,decide_eq_true_eq];exact⟨fun⟨y,h1,h2,h3⟩=>⟨y,⟨h1,h2⟩,h3⟩,fun⟨y,⟨h1,h2⟩,h3⟩=>⟨y,h1,h2,h3⟩⟩
def entT(E:List (Nat×Str)):List (Nat×V×V):=E.map fun p=>(p.1,V.str p.2,V.bool true)
def cvF(F:List (Nat×Str)×Nat)(x:Cell):List (Nat×Str)×Nat:=if x.null=true∨x.text∈F.1.map Prod.snd then F else(F.1++[(F.2,x.text)],F.2+1)
theorem sT(E:List (Nat×Str)):KeyedB (entT E) (E.map Prod.snd):=⟨by simp[entT]⟩
theorem A5(s:Str):∀(cells:List Cell) (F:List (Nat×Str)×Nat),s∈(cells.foldl cvF F).1.map Prod.snd↔s∈F.1.map Prod.snd∨s∈yw cells
 | [],F=>by simp[yw]
 |x::cells,F=>by
  rw[List.foldl_cons,A5 s cells];unfold cvF yw ntN;rw[List.filter_cons];cases hx:x.null with
  |true=>simp
  |false =>
   by_cases hm:x.text∈F.1.map Prod.snd
   ·rw[if_pos (.inr hm)];simp only[Bool.not_false,if_true,List.map_cons,List.mem_cons];refine⟨fun h=>h.elim .inl fun h=>.inr (.inr h),fun h=>?_⟩;rcases h with h|h|h
    ·exact .inl h
    ·exact .inl (h ▸ hm)
    ·exact .inr h
   ·rw[if_neg (by simp[hm])];simp only[Bool.not_false,if_true,List.map_cons,List.mem_cons,List.map_append,List.mem_append,List.map_nil,List.not_mem_nil,or_false];rw[or_assoc]
theorem EC{E:List (Nat×Str)}{s:Str}{j b:Nat}(h:aZ (.str s) (entT E)=some (some (j,b,.bool true))):(entT E).set j (b,.str s,.bool true)=entT E:=by
 obtain⟨k',h1,h2⟩:=ib h;have:=qP h2;subst this;obtain⟨hj,he⟩:=List.getElem?_eq_some_iff.1 h1;rw[←he];exact List.set_getElem_self hj
theorem yy(cells:List Cell)(c:Column)(es:List (Nat×V×V))(ck:Nat):Spec Tryz.prog 96 [.omap 0 0,.sl (aj cells) false,.agg c.row] [(0,.map es ck (some []))] (.bool (dT cells c)) [(0,.map (entT (cells.foldl cvF ([],ck)).1) (cells.foldl cvF ([],ck)).2 (some []))]:=by
 have hcl:=aF cells;have hcm:=fun s=>A5 s cells ([],ck);have hF0:∃F,F=cells.foldl cvF ([],ck):=⟨_,rfl⟩
 obtain⟨G,hG⟩:=hF0;have spC:=Ak (sT G.1) G.2 c.cells;rw[←hG] at hcm ⊢;rw[yx cells c (L:=G.1.map Prod.snd) (fun s=>by rw[hcm];simp)];unfold hasH at spC;refine gEn env Tryz.func96 fun Γ hN hK hML=>?_;refine gGo ?_;intros;refine W.loopG (fun m st=>∃(j:Nat) (F:List (Nat×Str)×Nat),j≤cells.length∧G=(cells.drop j).foldl cvF F∧m=cells.length-j∧st=⟨[(1,.sl (aj cells) false),(3,.bp 3 0),(5,.ro c.row 0),(10,.sl (aj cells) false),(11,.int .i64 (aj cells).length),(12,.int .i64 (j:Nat))],[(0,[.map (entT F.1) F.2 (some [])]),(3,[.rows 1 [[.omap 0 0]] none])],[0,3]⟩) cells.length _ ⟨0,([],ck),by omega,by rw[List.drop_zero];exact hG,by omega,rfl⟩
  ⟨[(0,0),(3,3)],[5],[],LeG.mk' rfl rfl rfl (by repeat' (first|exact trivial|exact⟨_,.refl _,rfl⟩|exact⟨_,.bp 5 0 2 c.row none rfl rfl (by simp[Column.row]) (.inr rfl),rfl⟩|apply And.intro)) (.ci 0 (.ci 3 .nil)) rfl rfl (by rw[hK];rfl)⟩ ?_
 rintro m st ⟨j,F,hj,hGF,rfl,rfl⟩;refine gT (fun hb=>?_) fun hb=>?_
 ·have hjl:j<cells.length:=by omega
  have hg:=aY hjl;rw[List.drop_eq_getElem_cons hjl,List.foldl_cons] at hGF;generalize cells[j]=x at *;obtain⟨nl,tx⟩:=x;have hke:=sT F.1;refine g ?_;cases nl with
  |true =>
   refine gGo ?_;exact gZ ⟨j+1,F,by omega,by rw[hGF];unfold cvF;rw[if_pos (.inl rfl)],rfl,rfl⟩
  |false =>
   refine gGo ?_;by_cases hm:tx∈F.1.map Prod.snd
   ·obtain⟨i,b,q1,q2⟩:=hke.yes hm;have hset:=EC q1;refine⟨_,q1,?_⟩;(conv=>whnf);refine gGo ?_;refine⟨_,_,?_,⟨j+1,F,by omega,by rw[hGF];unfold cvF;rw[if_pos (.inr hm)],rfl,rfl⟩,[(0,0),(3,3)],[],[],LeG.mq (.cons 0 rfl rfl (.refl _) (congrArg (fun e=>([Blk.map e F.2 (some [])]:List Blk)) hset.symm) (.ci 3 .nil))⟩;omega
   ·refine⟨_,hke.no hm,?_⟩;(conv=>whnf);refine gGo ?_;refine⟨_,_,?_,⟨j+1,(F.1++[(F.2,tx)],F.2+1),by omega,by rw[hGF];unfold cvF;rw[if_neg (by simp[hm])],rfl,rfl⟩,[(0,0),(3,3)],[],[],LeG.mq (.cons 0 rfl rfl (.refl _) (congrArg (fun e=>([Blk.map e (F.2+1) (some [])]:List Blk)) (show entT (F.1++[(F.2,tx)])=entT F.1++[(F.2,V.str tx,V.bool true)] from by unfold entT;rw[List.map_append];rfl)) (.ci 3 .nil))⟩;omega
 ·have hje:j=cells.length:=by omega
  rw[hje,List.drop_length] at hGF;subst hGF;refine gGo ?_;(refine gCA [(90,3),(91,0)] [] [] (spC) ?_;conv=>whnf);refine gGo ?_;(refine gM ?_;conv=>whnf);exact retH rfl (.refl _) rfl rfl rfl ⟨rfl,rfl,trivial⟩
def lnV(r:List Cell):List V:=[.sl (aj r) false]
def ea(l:List (List Cell)):List (List V):=l.map lnV
theorem kp(l:List (List Cell)):(ea l).length=l.length:=by simp[ea]
theorem sU{l:List (List Cell)}{i:Nat}(h:i<l.length):(ea l)[i]?=some [.sl (aj l[i]) false]:=by simp[ea,lnV,h]
theorem yz(l:List (List Cell))(x:List Cell):ea (l++[x])=ea l++[lnV x]:=by simp[ea]
theorem fX(l:List Rf)(x:Rf):ap (l++[x])=ap l++[x.row]:=by simp[ap]
def qc(l:List Table)(p:Pth):List Rf:=dr (aG l p)
def ED(l:List Table)(p:Pth):List (List Cell):=(qc l p).map (de l p)
def fa(p:Pth)(R:List Rf)(C:List (List Cell))(n:Nat):List V:=[.int .i64 p.start,.sl (ae p.steps) false,.sl (ap R) false,.sl (ea C) false,.int .i64 (n:Nat)]
def ga(ts:List Table)(i:Nat):List Rf:=(ts.take i).flatMap fun t=>bx t t.cols.length
theorem sV{ts:List Table}{i:Nat}(h:i<ts.length):ga ts (i+1)=ga ts i++bx ts[i] (ts[i]).cols.length:=by
 unfold ga;rw[List.take_succ_eq_append_getElem h,List.flatMap_append];simp
theorem pb(ts:List Table):ga ts ts.length=dr ts:=by unfold ga dr;rw[List.take_length]
theorem CE{ts:List Table}{i:Nat}(h:i<ts.length){r:Rf}{k:Nat}(hk:k≤(ts[i]).cols.length)(hr:r∈bx ts[i] k):r∈dr ts:=by
 refine List.mem_flatMap.2 ⟨ts[i],List.getElem_mem h,?_⟩;unfold bx at hr ⊢;obtain⟨j,hj,rfl⟩:=List.mem_map.1 hr;have h1:=List.mem_filter.1 hj;exact List.mem_map.2 ⟨j,List.mem_filter.2 ⟨List.mem_range.2 (by have:=List.mem_range.1 h1.1;omega),h1.2⟩,rfl⟩
theorem ll{l:List Table}{p:Pth}(h:bO l=true):∀t∈aG l p,t.cols.length≤64:=by
 have key:∀n:Int,(aT l n).cols.length≤64:=fun n=>by
  unfold aT;cases hf:bL l n with
  |none=>simp[Table.zero]
  |some t =>
   have hv:=fN h t (List.mem_of_find?_eq_some hf);simp only[aR,eg,Bool.and_eq_true,decide_eq_true_eq] at hv;show t.cols.length≤64;omega
 intro t ht;unfold aG at ht;rcases List.mem_cons.1 ht with rfl|ht
 ·exact key _
 ·obtain⟨s,_,rfl⟩:=List.mem_map.1 ht;exact key _
theorem u7{ts:List Table}(h:∀t∈ts,t.cols.length≤64)(i:Nat):(ga ts i).length≤ts.length*64:=by
 have key:∀ts:List Table,(∀t∈ts,t.cols.length≤64)→(ts.flatMap fun t=>bx t t.cols.length).length≤ts.length*64:=by
  intro ts
  induction ts with
  |nil=>intro _;simp
  |cons t ts ih =>
   intro h;have h1:=ih fun u hu=>h u (List.mem_cons_of_mem _ hu);have h2:=lR t t.cols.length;have h3:=h t List.mem_cons_self;rw[List.flatMap_cons,List.length_append,List.length_cons,Nat.add_mul];omega
 refine Nat.le_trans (key _ fun t ht=>h t (List.mem_of_mem_take ht)) (Nat.mul_le_mul_right _ ?_);rw[List.length_take];omega
theorem CF{l:List Table}{p:Pth}(h:aD l p=0){i:Nat}(hi:i≤p.steps.length){k:Nat}(hk:k<(tabN l p i).cols.length)(hf:yo ((tabN l p i).cols[k])=true) :
  (a6 l p).map (fun row=>((tabN l p i).cols[k]).cells.getD (row.getD i 0) pV)=de l p ⟨(tabN l p i).id,(k:Int)⟩∧((tabN l p i).cols[k]).cells.length=ab (tabN l p i):=by
 have hti:i<(aG l p).length:=by rw[cB];omega
 have hge:(aG l p)[i]=tabN l p i:=by
  have:=cJ l p hi;rw[List.getElem?_eq_getElem hti] at this;exact Option.some.inj this
 have hmem:(⟨(tabN l p i).id,(k:Int)⟩:Rf)∈dr (aG l p):=by
  refine CE hti (k:=(tabN l p i).cols.length) (by rw[hge];exact Nat.le_refl _) ?_;rw[hge];refine List.mem_map.2 ⟨k,List.mem_filter.2 ⟨List.mem_range.2 hk,?_⟩,rfl⟩;rw[List.getD_eq_getElem?_getD,List.getElem?_eq_getElem hk];exact hf
 obtain⟨q,h1,h2,h3,h4,h5,hc,h6,h7,h8⟩:=uV h (u5 h hmem);have hqi:q=i:=by
  have hnd:=uU h p.steps.length (Nat.le_refl _);have e1:(fW p)[q]?=some (tabN l p i).id:=h4;have e2:(fW p)[i]?=some (tabN l p i).id:=by
   rw[←sQ h,List.getElem?_map,cJ l p hi];rfl
  obtain⟨g1,g2⟩:=List.getElem?_eq_some_iff.1 e1;obtain⟨g3,g4⟩:=List.getElem?_eq_some_iff.1 e2;have hpw:=List.pairwise_iff_getElem.1 (List.nodup_iff_pairwise_ne.1 hnd);rcases Nat.lt_trichotomy q i with e|e|e
  ·exact absurd (g2.trans g4.symm) (hpw q i g1 g3 e)
  ·exact e
  ·exact absurd (g4.trans g2.symm) (hpw i q g3 g1 e)
 subst hqi;refine⟨?_,?_⟩
 ·unfold de;refine List.map_congr_left fun row _=>?_;unfold iE;rw[h7,h2];rfl
 ·have h8:=h8;rw[h7] at h8;exact h8
def iF(ys:List Cell)(x:Nat):List Cell:=ys.take x++List.replicate (ys.length-x) pV
theorem CG{ys:List Cell}{x:Nat}(h:x≤ys.length):(iF ys x).length=ys.length:=by simp[iF];omega
theorem Al(ys:List Cell):aj (iF ys 0)=List.replicate ys.length [.bool false,.str []]:=by
 simp[iF,aj,Cell.row,pV]
theorem CH(ys:List Cell):iF ys ys.length=ys:=by simp[iF]
theorem CI{ys:List Cell}{x:Nat}(h:x<ys.length):(aj (iF ys x)).set x (ys[x]).row=aj (iF ys (x+1)):=by
 have e:(iF ys x).set x ys[x]=iF ys (x+1):=by
  refine List.ext_getElem? fun j=>?_;rw[List.getElem?_set];unfold iF;by_cases hj:x=j
  ·subst hj;rw[if_pos rfl,if_pos (by simp;omega),List.getElem?_append_left (by simp;omega),List.getElem?_take,if_pos (by omega),List.getElem?_eq_getElem h]
  ·rw[if_neg hj];by_cases h1:j<x
   ·rw[List.getElem?_append_left (by simp;omega),List.getElem?_append_left (by simp;omega),List.getElem?_take,List.getElem?_take,if_pos h1,if_pos (by omega)]
   ·rw[List.getElem?_append_right (by simp;omega),List.getElem?_append_right (by simp;omega),List.getElem?_replicate,List.getElem?_replicate];simp only[List.length_take];by_cases h2:j<ys.length
    ·rw[if_pos (by omega),if_pos (by omega)]
    ·rw[if_neg (by omega),if_neg (by omega)]
 rw[←e];unfold aj;rw[List.map_set]
theorem CJ{l:List Table}{p:Pth}(h:aD l p=0)(htot:¬(a6 l p).length≤4096):Spec Tryz.prog 41 [.sl (aa l) false,.agg p.row] [] (.tup [.agg (fa ⟨0,[]⟩ [] [] 0),.bool false]) []:=by
 have sp2:=w4 l p (uh h) (nr h);have sp3:=sE h;have hpl:=fy l p;have hlen:=oM l p;rw[AZ] at sp3;refine gEn env Tryz.func41 fun Γ hN hK hML=>?_;refine gGo ?_;(refine gCA [] [(0,15),(1,90)] [] (sp2) ?_;conv=>whnf);refine gGs ?_;refine W.leG (mp:=[(4,4),(15,15)]) (bo:=[90,3]) (st':=⟨[(3,.ro p.row 0),(4,.bp 4 0),(5,.bool false),(6,.bp 15 0)],[(4,[.rows 5 [[.int .i64 0,.nils,.nils,.nils,.int .i64 0]] none]),(15,[.rows 1 [[.sl (aw (aV l p)) false]] none])],[4,15]⟩)
  (LeG.mk' rfl rfl rfl ⟨⟨_,.bp 3 0 2 p.row none rfl rfl (by simp[Pth.row]) (.inr rfl),rfl⟩,⟨_,.refl _,rfl⟩,⟨_,.refl _,rfl⟩,⟨_,.refl _,rfl⟩,trivial⟩ (.ci 4 (.cons 15 (b1:=.rows 1 [[.sl (aw (aV l p)) false]] none) rfl rfl (.rows _ _ _ (by repeat' (first|exact trivial|exact⟨Lent.whole rfl rfl hpl.symm rfl (.inl rfl),rfl⟩|apply And.intro))) rfl .nil)) rfl rfl (by rw[hK];rfl)) ?_
 refine W.leG (mp:=[(4,4)]) (bo:=[15]) (st':=⟨[(3,.ro p.row 0),(4,.bp 4 0),(5,.bool false),(6,.ro (dg l p) 0)],[(4,[.rows 5 [[.int .i64 0,.nils,.nils,.nils,.int .i64 0]] none])],[4]⟩)
  (LeG.mk' rfl rfl rfl ⟨⟨_,.refl _,rfl⟩,⟨_,.refl _,rfl⟩,⟨_,.refl _,rfl⟩,⟨_,Lent.bp 15 0 1 (dg l p) none rfl rfl (Nat.zero_le _) (.inr rfl),rfl⟩,trivial⟩ (.ci 4 .nil) rfl rfl (by rw[hK];rfl)) ?_
 refine g ?_;(refine gM ?_;conv=>whnf);exact retH rfl (.norm _) rfl rfl rfl trivial
theorem Fg{l:List Table}{p:Pth}(h:aD l p=0)(htot:(a6 l p).length≤4096):Spec Tryz.prog 41 [.sl (aa l) false,.agg p.row] [] (.tup [.agg (fa p (qc l p) (ED l p) (a6 l p).length),.bool true]) []:=by
 have sp4:=Aa h htot;have sp5:=vX h;have hcol:=fun(i:Nat) (hi:i≤p.steps.length) (k:Nat) hk hf=>CF h hi (k:=k) hk hf;have hml:=cB l p;have hmg:=fun i hi=>cJ l p (i:=i) hi;have hrow:∀row∈a6 l p,RowOK l p row:=fun row hr=>by
  obtain⟨g1,g2⟩:=oU hr;exact⟨g1,fun i hi=>g2.lt i (by omega)⟩
 have hsml:=ll (p:=p) (aI h).1;have h4:=(aI h).2.1;unfold qc ED qc;have sp2:=w4 l p (uh h) (nr h);have sp3:=sE h;have hpl:=fy l p;have hlen:=oM l p;rw[AZ] at sp3;refine gEn env Tryz.func41 fun Γ hN hK hML=>?_;refine gGo ?_;(refine gCA [] [(0,15),(1,90)] [] (sp2) ?_;conv=>whnf);refine gGs ?_;refine W.leG (mp:=[(4,4),(15,15)]) (bo:=[90,3]) (st':=⟨[(3,.ro p.row 0),(4,.bp 4 0),(5,.bool false),(6,.bp 15 0)],[(4,[.rows 5 [[.int .i64 0,.nils,.nils,.nils,.int .i64 0]] none]),(15,[.rows 1 [[.sl (aw (aV l p)) false]] none])],[4,15]⟩)
  (LeG.mk' rfl rfl rfl ⟨⟨_,.bp 3 0 2 p.row none rfl rfl (by simp[Pth.row]) (.inr rfl),rfl⟩,⟨_,.refl _,rfl⟩,⟨_,.refl _,rfl⟩,⟨_,.refl _,rfl⟩,trivial⟩ (.ci 4 (.cons 15 (b1:=.rows 1 [[.sl (aw (aV l p)) false]] none) rfl rfl (.rows _ _ _ (by repeat' (first|exact trivial|exact⟨Lent.whole rfl rfl hpl.symm rfl (.inl rfl),rfl⟩|apply And.intro))) rfl .nil)) rfl rfl (by rw[hK];rfl)) ?_
 refine W.leG (mp:=[(4,4)]) (bo:=[15]) (st':=⟨[(3,.ro p.row 0),(4,.bp 4 0),(5,.bool false),(6,.ro (dg l p) 0)],[(4,[.rows 5 [[.int .i64 0,.nils,.nils,.nils,.int .i64 0]] none])],[4]⟩)
  (LeG.mk' rfl rfl rfl ⟨⟨_,.refl _,rfl⟩,⟨_,.refl _,rfl⟩,⟨_,.refl _,rfl⟩,⟨_,Lent.bp 15 0 1 (dg l p) none rfl rfl (Nat.zero_le _) (.inr rfl),rfl⟩,trivial⟩ (.ci 4 .nil) rfl rfl (by rw[hK];rfl)) ?_
 refine g ?_;(refine gCA [] [(95,395)] [] (sp4) ?_;conv=>whnf);refine gGs ?_;generalize aG l p=TS at *;generalize a6 l p=L at *;generalize hCR:de l p=CR at *;have hLl:=cH L;have hTl:=aP TS;refine W.leG (mp:=[(4,4)]) (bo:=[395]) (st':=⟨[(3,.ro p.row 0),(4,.bp 4 0),(5,.bool false),(6,.ro (dg l p) 0),(7,.sl (am L) false)],[(4,[.rows 5 [[.int .i64 0,.nils,.nils,.nils,.int .i64 0]] none])],[4]⟩)
  (LeG.mk' rfl rfl rfl (by repeat' (first|exact trivial|exact⟨_,.refl _,rfl⟩|exact⟨_,Lent.whole rfl rfl rfl rfl (.inl rfl),rfl⟩|apply And.intro)) (.ci 4 .nil) rfl rfl (by rw[hK];rfl)) ?_
 (refine g ?_;intros);refine W.ownCell 8 0 2 301 2 rfl rfl rfl rfl rfl ?_;refine W.ownCell 8 0 3 302 1 rfl rfl rfl rfl rfl ?_;rw[hLl];refine W.loopG (fun m st=>∃i:Nat,i≤TS.length∧m=TS.length-i∧st=⟨[(4,.bp 4 0),(7,.sl (am L) false),(8,.bp 8 0),(30,.sl (aa TS) false),(31,.int .i64 (aa TS).length),(32,.int .i64 (i:Nat))],[(4,[.rows 5 [[.int .i64 0,.nils,.nils,.nils,.int .i64 0]] none]),(8,[.rows 5 [[.int .i64 p.start,.sl (ae p.steps) false,.osl 301 0 0 (ga TS i).length (ga TS i).length,.osl 302 0 0 (ga TS i).length (ga TS i).length,.int .i64 (L.length:Nat)]] none]),(301,[.rows 2 (ap (ga TS i)) (some [])]),(302,[.rows 1 (ea ((ga TS i).map CR)) (some [])])],[4,8,301,302]⟩)
  TS.length _ ⟨0,by omega,by omega,rfl⟩ ⟨[(4,4),(8,8),(301,301),(302,302)],[],[],LeG.mq (.ci 4 (.cons 8 rfl rfl (.refl _) (rfl) (.cons 301 rfl rfl (.refl _) (rfl) (.cons 302 rfl rfl (.refl _) (rfl) .nil))))⟩ ?_
 rintro m st ⟨i,hi,rfl,rfl⟩;have hRl:=u7 hsml i;refine gT (fun hb=>?_) fun hb=>?_
 ·have hil:i<TS.length:=by omega
  have hg:=bi hil;have hge:TS[i]=tabN l p i:=by
   have:=hmg i (by omega);rw[List.getElem?_eq_getElem hil] at this;exact Option.some.inj this
  have hsu:=sV hil;have hcol:=hcol i (by omega);have hlen:=hsml _ (List.getElem_mem hil);have hrw:=fun row hr=>(hrow row hr).lt i (by omega);rw[←hge] at hcol hrw;generalize TS[i]=t at *;generalize ga TS i=R0 at *;have htl:=aB t.cols;(refine g ?_;intros);refine W.loopG (fun m st=>∃k:Nat,k≤t.cols.length∧m=t.cols.length-k∧st=⟨[(4,.bp 4 0),(7,.sl (am L) false),(8,.bp 8 0),(30,.sl (aa TS) false),(31,.int .i64 (aa TS).length),(32,.int .i64 (i:Nat)),(9,.int .i64 (i:Nat)),(10,.ro t.row 0),(38,.sl (ai t.cols) false),(39,.int .i64 (ai t.cols).length),(40,.int .i64 (k:Nat))],[(4,[.rows 5 [[.int .i64 0,.nils,.nils,.nils,.int .i64 0]] none]),(8,[.rows 5 [[.int .i64 p.start,.sl (ae p.steps) false,.osl 301 0 0 ((R0++bx t k)).length ((R0++bx t k)).length,.osl 302 0 0 ((R0++bx t k)).length ((R0++bx t k)).length,.int .i64 (L.length:Nat)]] none]),(301,[.rows 2 (ap ((R0++bx t k))) (some [])]),(302,[.rows 1 (ea (((R0++bx t k)).map CR)) (some [])])],[4,8,301,302]⟩)
   t.cols.length _ ⟨0,by omega,by omega,rfl⟩ ⟨[(4,4),(8,8),(301,301),(302,302)],[10],[],LeG.mk' rfl rfl rfl (by repeat' (first|exact trivial|exact⟨_,.refl _,rfl⟩|exact⟨_,.bp 10 0 3 t.row none rfl rfl (by simp[Table.row]) (.inr rfl),rfl⟩|apply And.intro)) (.ci 4 (.cons 8 rfl rfl (.refl _) (by rw[show bx t 0=[] from rfl,List.append_nil];rfl) (.cons 301 rfl rfl (.refl _) (by rw[show bx t 0=[] from rfl,List.append_nil];rfl) (.cons 302 rfl rfl (.refl _) (by rw[show bx t 0=[] from rfl,List.append_nil];rfl) .nil)))) rfl rfl (by rw[hK];rfl)⟩ ?_
  rintro m st ⟨k,hk,rfl,rfl⟩;refine gT (fun hb=>?_) fun hb=>?_
  ·have hkl:k<t.cols.length:=by omega
   have hgc:=aW hkl;have hsk:=sO t k;rw[show t.cols.getD k ⟨[],[]⟩=t.cols[k] by simp[hkl]] at hsk;have hck:=hcol k hkl;have sp6:=Ag t.cols[k].cells;have hrT:=lR t k;generalize t.cols[k]=c at *;have hccl:=aF c.cells;rw[CD] at hsk hck;refine g ?_;cases hf:c.cells.any ntN with
   |false =>
    rw[hf] at sp6 hsk;rw[if_neg (by decide)] at hsk;refine g ?_;refine⟨_,_,?_,⟨k+1,by omega,rfl,rfl⟩,[(4,4),(8,8),(301,301),(302,302)],[],[],LeG.mq (.ci 4 (.cons 8 rfl rfl (.refl _) (by rw[hsk];rfl) (.cons 301 rfl rfl (.refl _) (by rw[hsk];rfl) (.cons 302 rfl rfl (.refl _) (by rw[hsk];rfl) .nil))))⟩;omega
   |true =>
    rw[hf] at sp6 hsk;rw[if_pos rfl] at hsk;obtain⟨hys,hcr⟩:=hck hf;obtain⟨ys,hy⟩:∃ys,ys=L.map fun row=>c.cells.getD (row.getD i 0) pV:=⟨_,rfl⟩
    rw[←hy] at hys;have hyl:ys.length=L.length:=by rw[hy,List.length_map]
    (refine g ?_;intros);rw[hLl];refine And.intro ⟨by omega,by omega,show(L.length:Int)*24≤140737488355328 by omega,by omega⟩ ?_;rw[Int.toNat_natCast];(conv=>whnf);refine gGo ?_;intros;refine W.loopG (fun m st=>∃x:Nat,x≤L.length∧m=L.length-x∧st=⟨[(4,.bp 4 0),(7,.sl (am L) false),(8,.bp 8 0),(30,.sl (aa TS) false),(31,.int .i64 (aa TS).length),(32,.int .i64 (i:Nat)),(9,.int .i64 (i:Nat)),(10,.ro t.row 0),(38,.sl (ai t.cols) false),(39,.int .i64 (ai t.cols).length),(40,.int .i64 (k:Nat)),(11,.int .i64 (k:Nat)),(12,.ro c.row 0),(13,.osl 303 0 0 L.length L.length),(52,.sl (am L) false),(53,.int .i64 (am L).length),(54,.int .i64 (x:Nat))],[(4,[.rows 5 [[.int .i64 0,.nils,.nils,.nils,.int .i64 0]] none]),(8,[.rows 5 [[.int .i64 p.start,.sl (ae p.steps) false,.osl 301 0 0 ((R0++bx t k)).length ((R0++bx t k)).length,.osl 302 0 0 ((R0++bx t k)).length ((R0++bx t k)).length,.int .i64 (L.length:Nat)]] none]),(301,[.rows 2 (ap ((R0++bx t k))) (some [])]),(302,[.rows 1 (ea (((R0++bx t k)).map CR)) (some [])]),(303,[.rows 2 (aj (iF ys x)) (some [])])],[4,8,301,302,303]⟩)
     L.length _ ⟨0,by omega,by omega,rfl⟩ ⟨[(4,4),(8,8),(301,301),(302,302),(51,303)],[12],[],LeG.mk' rfl rfl rfl (by repeat' (first|exact trivial|exact⟨_,.refl _,rfl⟩|exact⟨_,.bp 12 0 2 c.row none rfl rfl (by simp[Column.row]) (.inr rfl),rfl⟩|apply And.intro)) (.ci 4 (.ci 8 (.ci 301 (.ci 302 (.cons 51 rfl rfl (.refl _) (by rw[Al,hyl];rfl) .nil))))) rfl rfl (by rw[hK];rfl)⟩ ?_
    rintro m st ⟨x,hx,rfl,rfl⟩;have hfl:=CG (ys:=ys) (x:=x) (by omega);have hfc:=aF (iF ys x);refine gT (fun hb=>?_) fun hb=>?_
    ·have hxl:x<L.length:=by omega
     have hgr:=k8 hxl;have hRO:=hrow _ (List.getElem_mem hxl);have hrx:=hrw _ (List.getElem_mem hxl);have hyx:ys[x]'(by omega)=c.cells.getD (L[x].getD i 0) pV:=by simp[hy]
     have hset:=CI (ys:=ys) (x:=x) (by omega);generalize L[x]=row at *;have hi1:i<row.length:=by have:=hRO.len;omega
     have hnr:=aQ row;have hxg:(af row)[i]?=some [.int .i64 ((row.getD i 0:Nat):Int)]:=by
      have e:row.getD i 0=row[i]:=by rw[List.getD_eq_getElem?_getD,List.getElem?_eq_getElem hi1];rfl
      rw[dy hi1,e]
     have hcx:(aj c.cells)[row.getD i 0]?=some (ys[x]'(by omega)).row:=by
      rw[hyx,aY (by omega),List.getD_eq_getElem?_getD (l:=c.cells),List.getElem?_eq_getElem (by omega)];rfl
     generalize ys[x]'(by omega)=ce at *;generalize row.getD i 0=q at *;have hgf:=aY (l:=iF ys x) (i:=x) (by omega);generalize (iF ys x)[x]'(by omega)=c0 at hgf;refine g ?_;refine⟨_,_,?_,⟨x+1,by omega,rfl,rfl⟩,[(4,4),(8,8),(301,301),(302,302),(303,303)],[],[],LeG.mq (.ci 4 (.ci 8 (.ci 301 (.ci 302 (.cons 303 rfl rfl (.refl _) (congrArg (fun r=>([Blk.rows 2 r (some [])]:List Blk)) (hset.symm.trans (by rw[Nat.zero_add,Int.toNat_natCast];rfl))) .nil)))))⟩;omega
    ·have hxe:x=ys.length:=by omega
     rw[hxe,CH];have hyc:=aF ys;have hR1:=bq (R0++bx t k);have hR2:=kp ((R0++bx t k).map CR);rw[List.length_map] at hR2;have hR':R0++bx t (k+1)=(R0++bx t k)++[⟨t.id,(k:Int)⟩]:=by rw[hsk,List.append_assoc]
     refine gA ?_;refine gD rfl ?_;refine gG ?_;(conv=>whnf);refine W.leG (mp:=[(4,4),(8,8),(301,301),(302,302)]) (bo:=[303]) (st':=⟨[(4,.bp 4 0),(7,.sl (am L) false),(8,.bp 8 0),(30,.sl (aa TS) false),(31,.int .i64 (aa TS).length),(32,.int .i64 (i:Nat)),(9,.int .i64 (i:Nat)),(10,.ro t.row 0),(38,.sl (ai t.cols) false),(39,.int .i64 (ai t.cols).length),(40,.int .i64 (k:Nat)),(11,.int .i64 (k:Nat)),(13,.sl (aj ys) false)],[(4,[.rows 5 [[.int .i64 0,.nils,.nils,.nils,.int .i64 0]] none]),(8,[.rows 5 [[.int .i64 p.start,.sl (ae p.steps) false,.osl 301 0 0 ((R0++bx t k)).length ((R0++bx t k)).length,.osl 302 0 0 ((R0++bx t k)).length ((R0++bx t k)).length,.int .i64 (L.length:Nat)]] none]),(301,[.rows 2 (ap ((R0++bx t k))) (some [])]),(302,[.rows 1 (ea (((R0++bx t k)).map CR)) (some [])])],[4,8,301,302]⟩)
      (LeG.mk' rfl rfl rfl (by repeat' (first|exact trivial|exact⟨_,.refl _,rfl⟩|exact⟨_,Lent.whole rfl rfl (by omega) rfl (.inl rfl),rfl⟩|apply And.intro)) (.ci 4 (.cons 8 rfl rfl (.refl _) (rfl) (.cons 301 rfl rfl (.refl _) (rfl) (.cons 302 rfl rfl (.refl _) (rfl) .nil)))) rfl rfl (by rw[hK];rfl)) ?_
     have hRa:(R0++bx t k).length=R0.length+(bx t k).length:=List.length_append;refine gGo ?_;refine⟨⟨ao rfl au,hR1.symm⟩,bc (n:=(R0++bx t k).length+1) (b:=16) (by omega) (by omega),.inl ⟨rfl,rfl,?_⟩⟩;(conv=>whnf);refine gGo ?_;refine⟨⟨ao rfl au,hR2.symm⟩,bc (n:=(R0++bx t k).length+1) (b:=24) (by omega) (by omega),.inl ⟨rfl,rfl,?_⟩⟩;(conv=>whnf);refine gGo ?_;refine⟨_,_,?_,⟨k+1,by omega,rfl,rfl⟩,[(4,4),(8,8),(301,301),(302,302)],[],[],LeG.mq (.ci 4 (.cons 8 rfl rfl (.refl _) (congrArg (fun n=>([Blk.rows 5 [[.int .i64 p.start,.sl (ae p.steps) false,.osl 301 0 0 n n,.osl 302 0 0 n n,.int .i64 (L.length:Nat)]] none]:List Blk)) (show(R0++bx t (k+1)).length=(R0++bx t k).length+1 by rw[hR',List.length_append];rfl)) (.cons 301 rfl rfl (.refl _) (congrArg (fun r=>([Blk.rows 2 r (some [])]:List Blk)) (show ap (R0++bx t (k+1))=ap (R0++bx t k)++[Rf.row ⟨t.id,(k:Int)⟩] by rw[hR',fX])) (.cons 302 rfl rfl (.refl _) (congrArg (fun r=>([Blk.rows 1 r (some [])]:List Blk)) (show ea ((R0++bx t (k+1)).map CR)=ea ((R0++bx t k).map CR)++[lnV ys] by rw[hR',List.map_append,List.map_singleton,yz,←hys])) .nil))))⟩;omega
  ·have hke:k=t.cols.length:=by omega
   rw[hke];refine gGo ?_;refine⟨_,_,?_,⟨i+1,by omega,rfl,rfl⟩,[(4,4),(8,8),(301,301),(302,302)],[],[],LeG.mq (.ci 4 (.cons 8 rfl rfl (.refl _) (by rw[hsu];rfl) (.cons 301 rfl rfl (.refl _) (by rw[hsu];rfl) (.cons 302 rfl rfl (.refl _) (by rw[hsu];rfl) .nil))))⟩;omega
 ·have hie:i=TS.length:=by omega
  rw[hie,pb];have hR1:=bq (dr TS);have hR2:=kp ((dr TS).map CR);rw[List.length_map] at hR2;refine gA ?_;refine gD rfl ?_;refine gG ?_;(conv=>whnf);refine W.leG (mp:=[(4,4),(8,8)]) (bo:=[301,302]) (st':=⟨[(4,.bp 4 0),(8,.bp 8 0)],[(4,[.rows 5 [[.int .i64 0,.nils,.nils,.nils,.int .i64 0]] none]),(8,[.rows 5 [fa p (dr TS) ((dr TS).map CR) L.length] none])],[4,8]⟩)
   (LeG.mq (.ci 4 (.cons 8 (b1:=.rows 5 [fa p (dr TS) ((dr TS).map CR) L.length] none) rfl rfl (.rows _ _ _ ⟨⟨⟨.refl _,rfl⟩,⟨.refl _,rfl⟩,⟨Lent.whole rfl rfl hR1.symm rfl (.inl rfl),rfl⟩,⟨Lent.whole rfl rfl hR2.symm rfl (.inl rfl),rfl⟩,⟨.refl _,rfl⟩,trivial⟩,trivial⟩) rfl .nil))) ?_
  refine gGo ?_;(refine gM ?_;conv=>whnf);exact retH rfl (.refl _) rfl rfl rfl trivial
theorem u9{p:Pth}(h:0<p.steps.length):nY p=(p.steps[p.steps.length-1]).tt:=by
 unfold nY;rw[List.getLastD_eq_getLast?,List.getLast?_eq_getElem?,List.length_map,List.getElem?_map,List.getElem?_eq_getElem (by omega)];rfl
theorem yA(p:Pth)(cs:List Rf):u6 p cs=(decide (p.steps.length=0) ||(cs.any (isT p.start)&&cs.any (isT (nY p)))):=rfl
theorem CK(p:Pth)(R:List Rf)(C:List (List Cell))(n:Nat)(cs:List Rf):Spec Tryz.prog 98 [.agg (fa p R C n),.sl (ap cs) false] [] (.bool (u6 p cs)) []:=by
 have sp1:=sS cs p.start;have sp2:=sS cs (nY p);have hsl:=aC p.steps;rw[yA];by_cases h0:p.steps.length=0
 ·rw[decide_eq_true h0];refine gEn env Tryz.func98 fun Γ hN hK hML=>?_;exact gR
 ·rw[decide_eq_false h0];have hl:=u9 (p:=p) (by omega);have hg:=bf (l:=p.steps) (i:=p.steps.length-1) (by omega);generalize p.steps[p.steps.length-1]'(by omega)=s at *;refine gEn env Tryz.func98 fun Γ hN hK hML=>?_;refine gA ?_;(refine gE env hN (by kernel_rfl) ?_;conv=>whnf);refine gGs ?_;refine W.leG (mp:=[]) (bo:=[2,3]) (st':=⟨[(2,.ro (fa p R C n) 0),(3,.ro [.sl (ap cs) false] 0)],[],[]⟩)
   (LeG.mk' rfl rfl rfl ⟨⟨_,.bp 2 0 5 (fa p R C n) none rfl rfl (by simp[fa]) (.inr rfl),rfl⟩,⟨_,.bp 3 0 1 [.sl (ap cs) false] none rfl rfl (by simp) (.inr rfl),rfl⟩,trivial⟩ .nil rfl rfl (by rw[hK];rfl)) ?_
  refine gGo ?_;intros;(refine gPC (sp1) ?_;conv=>whnf);cases h1:cs.any (isT p.start) with
  |false =>
   refine gGr ?_;exact ret0 rfl rfl rfl
  |true =>
   refine gGo ?_;intros;refine al (r:=s.row) (by rw[show(((ae p.steps).length:Int)-1).toNat=p.steps.length-1 by omega];exact hg) ?_;(conv=>whnf);refine gGo ?_;rw[←hl];exact gR
end Go.Sx.Sp
