/- Small words and small fractions; relations of columns, as the document tells them. -/
import Derived.Test.YthlokmbefpjmgaaGreatDoorJFour
import Derived.Test.YthlokmbefpjmgaaGreatDoorSxFive
import Derived.Test.YthlokmbefpjmgaaGreatDoorSxFour
set_option linter.unusedVariables false
set_option linter.unusedSimpArgs false
set_option maxHeartbeats 16000000
namespace Go.Sx.Sp
open Go Go.Sx Go.Proofs
attribute [local irreducible] aO famL
def ar(l:List Nat):List (List V):=l.map fun(n:Nat)=>[.int .u32 (n:Int)]
theorem oQ(l:List Nat):(ar l).length=l.length:=by simp[ar]
theorem BM{l:List Nat}{i:Nat}(h:i<l.length):(ar l)[i]?=some [.int .u32 (l[i]:Int)]:=by simp[ar,h]
theorem zD(l:List Nat)(k:Nat):ar (l.take k)=(ar l).take k:=by simp[ar,List.map_take]
theorem xk(l:List Nat):bA (ar l) 1:=by
 unfold bA ar;intro r hr;obtain⟨c,_,rfl⟩:=List.mem_map.1 hr;rfl
def lY(l:List Nat):Nat→Nat
 | 0=>0
 |k+1=>if l.getD k 1=0 then lY l k else k+1
def iv(l:List Nat):List Nat:=l.take (lY l l.length)
def wd(n:Nat):List Nat:=if n=0 then [] else [n]
theorem fv(l:List Nat):Spec Tryz.prog 218 [.sl (ar l) false] [] (.sl (ar (iv l)) false) []:=by
 have hrl:=oQ l;refine gEn env Tryz.func218 fun Γ hN hK hML=>?_;refine gGo ?_;refine W.loopG (fun n st=>∃k:Nat,k≤l.length∧lY l l.length=lY l k∧n=k∧st=⟨[(0,.sl (ar (l.take k)) false)],[],[]⟩)
  l.length _ ⟨l.length,Nat.le_refl _,rfl,rfl,rfl⟩ ⟨[],[],[],LeG.mk' rfl rfl rfl ⟨⟨_,.refl _,(by rw[List.take_length];rfl)⟩,trivial⟩ .nil rfl rfl (by rw[hK];rfl)⟩ ?_
 rintro n st ⟨k,hk,ht,rfl,rfl⟩;have hkl:=oQ (l.take n);rw[List.length_take,Nat.min_eq_left hk] at hkl;refine gT (fun hb=>?_) fun hb=>?_
 ·cases n with
  |zero=>omega
  |succ q =>
   have hq:q<l.length:=by omega
   have hx:(ar (l.take (q+1)))[q]?=some [.int .u32 (l[q]:Int)]:=by
    rw[BM (by rw[List.length_take];omega)];simp
   have hsub:((ar (l.take (q+1))).length:Int)-1=(q:Int):=by omega
   have hg:l.getD q 1=l[q]:=by simp[hq]
   refine gGo ?_;intros;refine al (r:=[.int .u32 (l[q]:Int)]) (by rw[hsub,Int.toNat_natCast];exact hx) ?_;(conv=>whnf);refine gT (fun hb=>?_) fun hb=>?_
   ·have ht2:lY l l.length=lY l q:=by
     rw[ht];simp only[lY,hg];rw[if_pos (by omega)]
    refine gGo ?_;intros;refine⟨xk _,?_⟩;(conv=>whnf);refine gGo ?_;refine⟨_,_,?_,⟨q,by omega,ht2,rfl,rfl⟩,[],[],[],LeG.mk' rfl rfl rfl ⟨⟨_,.refl _,?_⟩,trivial⟩ .nil rfl rfl (by rw[hK];rfl)⟩
    ·omega
    ·show V.sl ((List.take (((ar (l.take (q+1))).length:Int)-1).toNat (ar (l.take (q+1)))).drop 0) false=V.sl (ar (l.take q)) false;rw[List.drop_zero,hsub,Int.toNat_natCast,←zD,List.take_take,Nat.min_eq_left (by omega)]
   ·have he:iv l=l.take (q+1):=by
     unfold iv;rw[ht];simp only[lY,hg];rw[if_neg (by omega)]
    rw[he];exact gR
 ·have hn0:n=0:=by omega
  subst hn0;have he:iv l=l.take 0:=by unfold iv;rw[ht];rfl
  rw[he];exact gR
theorem u32w{n:Int}(h:0≤n∧n≤4294967295):IntKind.u32.wrap n=n:=IntWalk.u32_in n h
theorem u64w{n:Int}(h:0≤n∧n≤18446744073709551615):IntKind.u64.wrap n=n:=IntWalk.u64_in n h
theorem iQ:wd 0=[]:=rfl
theorem aS{n:Nat}(h:n≠0):wd n=[n]:=by unfold wd;rw[if_neg h]
theorem iw(n:Nat):iv [n]=wd n:=by
 unfold iv wd;by_cases h:n=0
 ·subst h;rfl
 ·simp[lY,h]
theorem rG(n:Nat):iv [n,0]=wd n:=by
 unfold iv wd;by_cases h:n=0
 ·subst h;rfl
 ·simp[lY,h]
theorem vL(n:Nat):iv (wd n)=wd n:=by
 by_cases h:n=0
 ·subst h;rfl
 ·rw[aS h,iw,aS h]
def bigV(neg:Bool)(l:List Nat):List V:=[.bool neg,.sl (ar l) false]
theorem xl(neg:Bool)(l:List Nat):Spec Tryz.prog 199 [.bool neg,.sl (ar l) false] [] (.agg (bigV (neg&&decide (0<(iv l).length)) (iv l))) []:=by
 have sp:=fv l;have hl:=oQ (iv l);generalize iv l=t at *;refine gEn env Tryz.func199 fun Γ hN hK hML=>?_;cases neg with
 |false =>
  refine g ?_;(refine gM ?_;conv=>whnf);exact retH rfl (.norm _) rfl rfl rfl trivial
 |true =>
  refine gT (fun hb=>?_) fun hb=>?_
  ·have e:(true&&decide (0<t.length))=true:=by rw[decide_eq_true (show 0<t.length by omega)];rfl
   rw[e];refine gGo ?_;intros;(refine gM ?_;conv=>whnf);exact retH rfl (.norm _) rfl rfl rfl trivial
  ·have e:(true&&decide (0<t.length))=false:=by rw[decide_eq_false (show ¬0<t.length by omega)];rfl
   rw[e];refine gGo ?_;intros;(refine gM ?_;conv=>whnf);exact retH rfl (.norm _) rfl rfl rfl trivial
def cmpN(x y:Nat):Int:=if x<y then -1 else if y<x then 1 else 0
theorem kY(x y:Nat):Spec Tryz.prog 197 [.sl (ar (wd x)) false,.sl (ar (wd y)) false] [] (.int .i64 (cmpN x y)) []:=by
 refine gEn env Tryz.func197 fun Γ hN hK hML=>?_;by_cases hx:x=0
 ·by_cases hy:y=0
  ·subst hx;subst hy;rw[iQ,show cmpN 0 0=0 from rfl];refine gGo ?_;intros;refine W.loopG (fun n st=>n=0∧st=⟨[(5,.int .i64 (-1))],[],[]⟩) 0 _ ⟨rfl,rfl⟩ gX ?_;rintro n st ⟨rfl,rfl⟩;exact gR
  ·subst hx;have e:cmpN 0 y=-1:=by unfold cmpN;rw[if_pos (by omega)]
   rw[iQ,aS hy,e];refine gGo ?_;intros;refine gK (by show(0:Int)≠1;decide) ?_;(conv=>whnf);refine gGo ?_;intros;refine gK (by show(0:Int)<1;decide) ?_;(conv=>whnf);exact gR
 ·by_cases hy:y=0
  ·subst hy;have e:cmpN x 0=1:=by unfold cmpN;rw[if_neg (by omega),if_pos (by omega)]
   rw[iQ,aS hx,e];refine gGo ?_;intros;refine gK (by show(1:Int)≠0;decide) ?_;(conv=>whnf);refine gGo ?_;intros;refine gL (by show ¬(1:Int)<0;decide) ?_;(conv=>whnf);exact gR
  ·rw[aS hx,aS hy];refine gGo ?_;intros;refine gL (fun h=>h rfl) ?_;(conv=>whnf);refine gGo ?_;intros;refine W.loopG (fun n st=>(n=1∧st=⟨[(0,.sl (ar [x]) false),(1,.sl (ar [y]) false),(5,.int .i64 0)],[],[]⟩)∨(n=0∧x=y∧st=⟨[(0,.sl (ar [x]) false),(1,.sl (ar [y]) false),(5,.int .i64 (-1))],[],[]⟩)) 1 _ (.inl ⟨rfl,rfl⟩) gX ?_;rintro n st (⟨rfl,rfl⟩|⟨rfl,hxy,rfl⟩)
   ·refine gT (fun hb=>?_) fun hb=>?_
    ·have e:cmpN x y=-1:=by unfold cmpN;rw[if_pos (by omega)]
     rw[e];exact gR
    ·refine gT (fun hb=>?_) fun hb=>?_
     ·have e:cmpN x y=1:=by unfold cmpN;rw[if_neg (by omega),if_pos (by omega)]
      rw[e];exact gR
     ·refine gGo ?_;exact⟨_,_,by omega,.inr ⟨rfl,by omega,rfl⟩,gX⟩
   ·have e:cmpN x y=0:=by unfold cmpN;rw[if_neg (by omega),if_neg (by omega)]
    rw[e];exact gR
theorem lH(n:Nat):BitVec.ofInt 32 (n:Int)=BitVec.ofNat 32 n:=BitVec.ofInt_natCast 32 n
theorem ka(n:Nat)(h:n<4294967296):IntKind.u32.wrap ((BitVec.ofInt IntKind.u32.bits (n:Int) &&& BitVec.ofInt IntKind.u32.bits 1).toNat:Nat)=((n % 2:Nat):Int):=by
 have e:(BitVec.ofInt 32 (n:Int) &&& BitVec.ofInt 32 1).toNat=n % 2:=by
  rw[lH,show(1:Int)=((1:Nat):Int) from rfl,lH,BitVec.toNat_and,BitVec.toNat_ofNat,BitVec.toNat_ofNat,Nat.mod_eq_of_lt (show n<2 ^ 32 from h)];exact Nat.and_one_is_mod n
 show IntKind.u32.wrap ((BitVec.ofInt 32 (n:Int) &&& BitVec.ofInt 32 1).toNat:Nat)=_;rw[e,u32w (by omega)]
theorem AL(a b:Nat)(ha:a<4294967296)(hb:b<4294967296)(h:a |||b=a+b)(hs:a+b<4294967296):IntKind.u32.wrap ((BitVec.ofInt IntKind.u32.bits (a:Int) |||BitVec.ofInt IntKind.u32.bits (b:Int)).toNat:Nat)=((a+b:Nat):Int):=by
 have e:(BitVec.ofInt 32 (a:Int) |||BitVec.ofInt 32 (b:Int)).toNat=a+b:=by
  rw[lH,lH,BitVec.toNat_or,BitVec.toNat_ofNat,BitVec.toNat_ofNat,Nat.mod_eq_of_lt (show a<2 ^ 32 from ha),Nat.mod_eq_of_lt (show b<2 ^ 32 from hb),h]
 show IntKind.u32.wrap ((BitVec.ofInt 32 (a:Int) |||BitVec.ofInt 32 (b:Int)).toNat:Nat)=_;rw[e,u32w (by omega)]
theorem DA(a d:Nat)(i:Nat)(h:d<2 ^ i):2 ^ i*a |||d=2 ^ i*a+d:=(Nat.two_pow_add_eq_or_of_lt h a).symm
theorem fP(x k:Nat):((x:Int).fdiv ((2:Int) ^ k))=((x / 2 ^ k:Nat):Int):=by
 rw[Int.fdiv_eq_ediv_of_nonneg _ (Int.le_of_lt (Int.pow_pos (by decide)))];rw[show((2:Int) ^ k)=((2 ^ k:Nat):Int) by simp];rw[Int.natCast_ediv]
theorem DB(x i:Nat)(hx:x<4294967296)(hi:i<32):Spec Tryz.prog 231 [.sl (ar [x]) false,.int .i64 i] [] (.int .u32 ((x / 2 ^ i % 2:Nat):Int)) []:=by
 have h1:(i:Int).tdiv 32=0:=by rw[Int.tdiv_eq_ediv_of_nonneg (by omega)];omega
 have h2:(i:Int).tmod 32=i:=by rw[Int.tmod_eq_emod_of_nonneg (by omega)];omega
 have h3:IntKind.u64.wrap (i:Int)=i:=u64w (by omega);have h4:x / 2 ^ i≤x:=Nat.div_le_self _ _;have h5:=ka (x / 2 ^ i) (by omega);have e:IntKind.u32.wrap ((BitVec.ofInt IntKind.u32.bits ((x:Int).fdiv (2 ^ min (IntKind.u64.wrap ((i:Int).tmod 32)).toNat IntKind.u32.bits)) &&& BitVec.ofInt IntKind.u32.bits 1).toNat:Nat)=((x / 2 ^ i % 2:Nat):Int):=by
  rw[h2,h3,Int.toNat_natCast,show min i IntKind.u32.bits=i from Nat.min_eq_left (show i≤32 by omega),fP];exact h5
 refine gEn env Tryz.func231 fun Γ hN hK hML=>?_;refine gGo ?_;refine al (r:=[.int .u32 (x:Int)]) (by rw[h1];rfl) ?_;(conv=>whnf);refine gGo ?_;refine And.intro (by rw[h2,h3];omega) ?_;(conv=>whnf);refine gGo ?_;rw[e];exact gR
theorem DC(x:Nat)(hx:x≠0):Spec Tryz.prog 218 [.osl 0 0 0 2 2] [(0,.rows 1 (ar [x,0]) (some []))] (.osl 0 0 0 1 2) [(0,.rows 1 (ar [x,0]) (some []))]:=by
 refine gEn env Tryz.func218 fun Γ hN hK hML=>?_;refine gGo ?_;refine W.loopG (fun n st=>(n=1∧st=⟨[(0,.osl 0 0 0 2 2)],[(0,[.rows 1 (ar [x,0]) (some [])])],[0]⟩)∨(n=0∧st=⟨[(0,.osl 0 0 0 1 2)],[(0,[.rows 1 (ar [x,0]) (some [])])],[0]⟩)) 1 _ (.inl ⟨rfl,rfl⟩) gX ?_;rintro n st (⟨rfl,rfl⟩|⟨rfl,rfl⟩)
 ·refine gGo ?_;intros;exact⟨_,_,by omega,.inr ⟨rfl,rfl⟩,gX⟩
 ·refine gGo ?_;intros;(refine gM ?_;conv=>whnf);exact retH rfl (.refl _) rfl rfl rfl ⟨rfl,rfl,trivial⟩
theorem mI(r d:Nat)(hr:r<1073741824)(hd:d<2):Spec Tryz.prog 217 [.sl (ar (wd r)) false,.int .u32 d] [] (.sl (ar (wd (2*r+d))) false) []:=by
 by_cases h0:r=0
 ·subst h0;have sp:=fv [d];rw[iw] at sp;rw[iQ,show 2*0+d=d by omega];refine gEn env Tryz.func217 fun Γ hN hK hML=>?_;refine gGo ?_;refine W.loopG (fun n st=>n=0∧st=⟨[(0,.sl (ar []) false),(1,.int .u32 d),(5,.nils),(6,.int .i64 0)],[],[]⟩) 0 _ ⟨rfl,rfl⟩ gX ?_;rintro n st ⟨rfl,rfl⟩;refine gGo ?_;intros;refine gL (by show ¬(0:Int)<0;decide) ?_;(conv=>whnf);refine gGo ?_;refine⟨ao rfl au,bc (n:=1) (b:=4) (by omega) (by omega),Or.inr ⟨⟨rfl,rfl,rfl,rfl⟩,?_⟩⟩;(conv=>whnf);exact gR
 ·have e1:2*r+d≠0:=by omega
  have sp:=DC (2*r+d) e1;rw[aS h0,aS e1];have e31:(r:Int).fdiv (2 ^ 31)=0:=by
   rw[fP,Nat.div_eq_of_lt (by omega)];rfl
  have etw:IntKind.u32.wrap ((BitVec.ofInt IntKind.u32.bits (IntKind.u32.wrap ((r:Int)*2 ^ 1)) |||BitVec.ofInt IntKind.u32.bits (d:Int)).toNat:Nat)=((2*r+d:Nat):Int):=by
   have g:=DA r d 1 (by omega);rw[show(2:Nat) ^ 1=2 from rfl] at g;rw[u32w (n:=(r:Int)*2 ^ 1) (by omega),show(r:Int)*2 ^ 1=((2*r:Nat):Int) by omega];exact AL (2*r) d (by omega) (by omega) g (by omega)
  refine gEn env Tryz.func217 fun Γ hN hK hML=>?_;refine gGo ?_;refine W.ownNil 5 90 1 rfl rfl ?_;refine W.loopG (fun n st=>(n=1∧st=⟨[(0,.sl (ar [r]) false),(1,.int .u32 d),(5,.osl 90 0 0 0 0),(6,.int .i64 0)],[(90,[.rows 1 [] (some [])])],[90]⟩)∨(n=0∧st=⟨[(0,.sl (ar [r]) false),(1,.int .u32 0),(5,.osl 90 0 0 1 1),(6,.int .i64 1)],[(90,[.rows 1 (ar [2*r+d]) (some [])])],[90]⟩)) 1 _ (.inl ⟨rfl,rfl⟩) gX ?_;rintro n st (⟨rfl,rfl⟩|⟨rfl,rfl⟩)
  ·refine gGo ?_;intros;refine gK (by show(0:Int)<1;decide) ?_;(conv=>whnf);refine gGo ?_;refine⟨⟨ao rfl au,rfl⟩,bc (n:=0+1) (b:=4) (by omega) (by omega),.inl ⟨rfl,rfl,?_⟩⟩;(conv=>whnf);refine gGo ?_;refine⟨_,_,?_,.inr ⟨rfl,rfl⟩,[(90,90)],[],[],LeG.mk' rfl rfl rfl ⟨⟨_,.refl _,rfl⟩,⟨_,.refl _,?_⟩,⟨_,.refl _,rfl⟩,⟨_,.refl _,rfl⟩,trivial⟩ (.cons 90 rfl rfl (.refl _) ?_ .nil) rfl rfl (by rw[hK];rfl)⟩
   ·omega
   ·exact congrArg (V.int .u32) e31
   ·exact congrArg (fun z=>[Blk.rows 1 [[V.int .u32 z]] (some [])]) etw.symm
  ·refine gGo ?_;intros;refine gL (by show ¬(1:Int)<1;decide) ?_;(conv=>whnf);refine gGo ?_;refine⟨⟨ao rfl au,rfl⟩,bc (n:=1+1) (b:=4) (by omega) (by omega),.inl ⟨rfl,rfl,?_⟩⟩;(conv=>whnf);refine gGo ?_;(refine gCA [(0,90)] [] [] (sp) ?_;conv=>whnf);refine gGo ?_;refine W.leG (mp:=[]) (bo:=[90]) (st':=⟨[(4,.sl (ar [2*r+d]) false)],[],[]⟩)
    (LeG.mk' rfl rfl rfl ⟨⟨_,Lent.oslF 90 0 0 1 2 1 (ar [2*r+d,0]) (some []) rfl rfl rfl (.inl rfl),rfl⟩,trivial⟩ .nil rfl rfl (by rw[hK];rfl)) ?_
   (refine gM ?_;conv=>whnf);exact ret0 rfl rfl rfl
theorem gu(r:Nat)(hr:r<4294967296):Spec Tryz.prog 216 [.sl (ar [r]) false] [] (.sl (ar (wd (r / 2))) false) []:=by
 have sp:=fv [r / 2];rw[iw] at sp;have ec:(r:Int).fdiv (2 ^ 1)=((r / 2:Nat):Int):=fP r 1;refine gEn env Tryz.func216 fun Γ hN hK hML=>?_;refine gGl ?_;refine Or.inl ?_;(conv=>whnf);refine gGo ?_;refine⟨⟨xk _,rfl⟩,bc (n:=0+1) (b:=4) (by omega) (by omega),.inl ⟨rfl,rfl,?_⟩⟩;(conv=>whnf);refine gGo ?_;intros;refine W.loopG (fun n st=>(n=1∧st=⟨[(0,.sl (ar [r]) false),(3,.osl 5 0 0 1 1),(9,.int .i64 1),(10,.int .i64 0)],[(5,[.rows 1 (ar [r]) (some [])])],[5]⟩)∨(n=0∧st=⟨[(0,.sl (ar [r]) false),(3,.osl 5 0 0 1 1),(9,.int .i64 1),(10,.int .i64 1)],[(5,[.rows 1 (ar [r / 2]) (some [])])],[5]⟩)) 1 _ (.inl ⟨rfl,rfl⟩) gX ?_;rintro n st (⟨rfl,rfl⟩|⟨rfl,rfl⟩)
 ·refine gGo ?_;intros;refine gL (by show ¬(0:Int)+1<1;decide) ?_;(conv=>whnf);refine gGo ?_;refine⟨_,_,by omega,.inr ⟨rfl,rfl⟩,[(5,5)],[],[],LeG.mq (.cons 5 rfl rfl (.refl _) ?_ .nil)⟩;exact congrArg (fun z=>[Blk.rows 1 [[V.int .u32 z]] (some [])]) ec.symm
 ·refine gA ?_;(refine gE env hN (by kernel_rfl) ?_;conv=>whnf);refine gGs ?_;refine W.leG (mp:=[]) (bo:=[5]) (st':=⟨[(3,.sl (ar [r / 2]) false),(11,.bool false)],[],[]⟩)
   (LeG.mk' rfl rfl rfl ⟨⟨_,Lent.whole rfl rfl rfl rfl (.inl rfl),rfl⟩,⟨_,.refl _,rfl⟩,trivial⟩ .nil rfl rfl (by rw[hK];rfl)) ?_
  exact gR
theorem kZ(x y:Nat)(hx:x<4294967296)(h0:x≠0)(hy:y≤x):Spec Tryz.prog 201 [.sl (ar (wd x)) false,.sl (ar (wd y)) false] [] (.sl (ar (wd (x-y))) false) []:=by
 have sp:=fv [x-y];rw[iw] at sp;have ec:IntKind.u32.wrap (0+(x:Int)-y)=((x-y:Nat):Int):=by rw[u32w (by omega)];omega
 have es:(0+(x:Int)-y).fdiv (2 ^ 32)=0:=by
  rw[show 0+(x:Int)-y=((x-y:Nat):Int) by omega,fP,Nat.div_eq_of_lt (by omega)];rfl
 have ec0:IntKind.u32.wrap (0+(x:Int))=((x-0:Nat):Int):=by rw[u32w (by omega)];omega
 have es0:(0+(x:Int)).fdiv (2 ^ 32)=0:=by
  rw[show 0+(x:Int)=((x:Nat):Int) by omega,fP,Nat.div_eq_of_lt (by omega)];rfl
 rw[aS h0];refine gEn env Tryz.func201 fun Γ hN hK hML=>?_;refine gGo ?_;refine W.ownNil 5 90 1 rfl rfl ?_;refine W.loopG (fun n st=>(n=1∧st=⟨[(0,.sl (ar [x]) false),(1,.sl (ar (wd y)) false),(5,.osl 90 0 0 0 0),(6,.int .i64 0),(7,.int .i64 0)],[(90,[.rows 1 [] (some [])])],[90]⟩)∨(n=0∧st=⟨[(0,.sl (ar [x]) false),(1,.sl (ar (wd y)) false),(5,.osl 90 0 0 1 1),(6,.int .i64 0),(7,.int .i64 1)],[(90,[.rows 1 (ar [x-y]) (some [])])],[90]⟩)) 1 _ (.inl ⟨rfl,rfl⟩) gX ?_;rintro n st (⟨rfl,rfl⟩|⟨rfl,rfl⟩)
 ·refine gGo ?_;intros;refine gK (by show(0:Int)<1;decide) ?_;(conv=>whnf);refine gGo ?_;intros;by_cases hy0:y=0
  ·subst hy0;rw[iQ];refine gL (by show ¬(0:Int)<0;decide) ?_;(conv=>whnf);refine gGo ?_;refine⟨⟨ao rfl au,rfl⟩,bc (n:=0+1) (b:=4) (by omega) (by omega),.inl ⟨rfl,rfl,?_⟩⟩;(conv=>whnf);refine gGo ?_;intros;refine⟨_,_,by omega,.inr ⟨rfl,rfl⟩,[(90,90)],[],[],LeG.mk' rfl rfl rfl ⟨⟨_,.refl _,rfl⟩,⟨_,.refl _,rfl⟩,⟨_,.refl _,rfl⟩,⟨_,.refl _,?_⟩,⟨_,.refl _,rfl⟩,trivial⟩ (.cons 90 rfl rfl (.refl _) ?_ .nil) rfl rfl (by rw[hK];rfl)⟩
   ·exact congrArg (V.int .i64) es0
   ·exact congrArg (fun z=>[Blk.rows 1 [[V.int .u32 z]] (some [])]) ec0.symm
  ·rw[aS hy0];refine gK (by show(0:Int)<1;decide) ?_;(conv=>whnf);refine gGo ?_;refine⟨⟨ao rfl au,rfl⟩,bc (n:=0+1) (b:=4) (by omega) (by omega),.inl ⟨rfl,rfl,?_⟩⟩;(conv=>whnf);refine gGo ?_;refine⟨_,_,by omega,.inr ⟨rfl,rfl⟩,[(90,90)],[],[],LeG.mk' rfl rfl rfl ⟨⟨_,.refl _,rfl⟩,⟨_,.refl _,rfl⟩,⟨_,.refl _,rfl⟩,⟨_,.refl _,?_⟩,⟨_,.refl _,rfl⟩,trivial⟩ (.cons 90 rfl rfl (.refl _) ?_ .nil) rfl rfl (by rw[hK];rfl)⟩
   ·exact congrArg (V.int .i64) es
   ·exact congrArg (fun z=>[Blk.rows 1 [[V.int .u32 z]] (some [])]) ec.symm
 ·refine gGo ?_;intros;refine gL (by show ¬(1:Int)<1;decide) ?_;(conv=>whnf);refine W.leG (mp:=[]) (bo:=[90]) (st':=⟨[(5,.sl (ar [x-y]) false),(11,.bool false)],[],[]⟩)
   (LeG.mk' rfl rfl rfl ⟨⟨_,Lent.whole rfl rfl rfl rfl (.inl rfl),rfl⟩,⟨_,.refl _,rfl⟩,trivial⟩ .nil rfl rfl (by rw[hK];rfl)) ?_
  exact gR
theorem DD(x:Nat)(hx:x<4294967296):Spec Tryz.prog 200 [.sl (ar (wd x)) false,.sl (ar []) false] [] (.sl (ar (if x=0 then [0] else [x,0])) false) []:=by
 by_cases h0:x=0
 ·subst h0;rw[iQ,if_pos rfl];refine gEn env Tryz.func200 fun Γ hN hK hML=>?_;refine gGo ?_;refine W.loopG (fun n st=>n=0∧st=⟨[(0,.sl (ar []) false),(1,.sl (ar []) false),(5,.nils),(6,.int .u64 0),(7,.int .i64 0)],[],[]⟩) 0 _ ⟨rfl,rfl⟩ gX ?_;rintro n st ⟨rfl,rfl⟩;refine gA ?_;refine gA ?_;(refine gE env hN (by kernel_rfl) ?_;conv=>whnf);refine gGs ?_;intros;refine gL (by show ¬(0:Int)<0;decide) ?_;(conv=>whnf);refine gGo ?_;intros;refine gL (by show ¬(0:Int)<0;decide) ?_;(conv=>whnf);refine gGo ?_;refine⟨ao rfl au,bc (n:=1) (b:=4) (by omega) (by omega),Or.inr ⟨⟨rfl,rfl,rfl,rfl⟩,?_⟩⟩;(conv=>whnf);exact gR
 ·have ec:IntKind.u32.wrap (IntKind.u64.wrap (0+IntKind.u64.wrap (x:Int)))=x:=by rw[u64w (n:=(x:Int)) (by omega),u64w (by omega),u32w (by omega)];omega
  have es:(IntKind.u64.wrap (0+IntKind.u64.wrap (x:Int))).fdiv (2 ^ 32)=0:=by
   rw[u64w (n:=(x:Int)) (by omega),u64w (by omega),show(0:Int)+x=(x:Nat) by omega,fP,Nat.div_eq_of_lt (by omega)];rfl
  rw[aS h0,if_neg h0];refine gEn env Tryz.func200 fun Γ hN hK hML=>?_;refine gGo ?_;refine W.ownNil 5 90 1 rfl rfl ?_;refine W.loopG (fun n st=>(n=1∧st=⟨[(0,.sl (ar [x]) false),(1,.sl (ar []) false),(5,.osl 90 0 0 0 0),(6,.int .u64 0),(7,.int .i64 0)],[(90,[.rows 1 [] (some [])])],[90]⟩)∨(n=0∧st=⟨[(0,.sl (ar [x]) false),(1,.sl (ar []) false),(5,.osl 90 0 0 1 1),(6,.int .u64 0),(7,.int .i64 1)],[(90,[.rows 1 (ar [x]) (some [])])],[90]⟩)) 1 _ (.inl ⟨rfl,rfl⟩) gX ?_;rintro n st (⟨rfl,rfl⟩|⟨rfl,rfl⟩)
  ·refine gGo ?_;intros;refine gK (by show(0:Int)<1;decide) ?_;(conv=>whnf);refine gGo ?_;intros;refine gK (by show(0:Int)<1;decide) ?_;(conv=>whnf);refine gGo ?_;intros;refine gL (by show ¬(0:Int)<0;decide) ?_;(conv=>whnf);refine gGo ?_;refine⟨⟨ao rfl au,rfl⟩,bc (n:=0+1) (b:=4) (by omega) (by omega),.inl ⟨rfl,rfl,?_⟩⟩;(conv=>whnf);refine gGo ?_;refine⟨_,_,by omega,.inr ⟨rfl,rfl⟩,[(90,90)],[],[],LeG.mk' rfl rfl rfl ⟨⟨_,.refl _,rfl⟩,⟨_,.refl _,rfl⟩,⟨_,.refl _,rfl⟩,⟨_,.refl _,?_⟩,⟨_,.refl _,rfl⟩,trivial⟩ (.cons 90 rfl rfl (.refl _) ?_ .nil) rfl rfl (by rw[hK];rfl)⟩
   ·exact congrArg (V.int .u64) es
   ·exact congrArg (fun z=>[Blk.rows 1 [[V.int .u32 z]] (some [])]) ec.symm
  ·refine gGo ?_;intros;refine gL (by show ¬(1:Int)<1;decide) ?_;(conv=>whnf);refine gGo ?_;intros;refine gL (by show ¬(1:Int)<0;decide) ?_;(conv=>whnf);refine gGo ?_;refine⟨⟨ao rfl au,rfl⟩,bc (n:=1+1) (b:=4) (by omega) (by omega),.inl ⟨rfl,rfl,?_⟩⟩;(conv=>whnf);refine gGo ?_;refine W.leG (mp:=[]) (bo:=[90]) (st':=⟨[(4,.sl (ar [x,0]) false)],[],[]⟩)
    (LeG.mk' rfl rfl rfl ⟨⟨_,Lent.whole rfl rfl rfl rfl (.inl rfl),rfl⟩,trivial⟩ .nil rfl rfl (by rw[hK];rfl)) ?_
   (refine gM ?_;conv=>whnf);exact ret0 rfl rfl rfl
theorem DE(x y:Nat)(hx:x<4294967296)(hy:y<4294967296)(hy0:y≠0)(hxy:x*y<4294967296):Spec Tryz.prog 202 [.sl (ar (wd x)) false,.sl (ar (wd y)) false] [] (.sl (ar (wd (x*y))) false) []:=by
 by_cases h0:x=0
 ·subst h0;have sp:=fv [0];rw[iw] at sp;rw[iQ,aS hy0,Nat.zero_mul];have hl0:(ar []).length=0:=rfl;have hly:(ar [y]).length=1:=rfl;refine gEn env Tryz.func202 fun Γ hN hK hML=>?_;refine gGo ?_;intros;refine And.intro ⟨by omega,by omega,(by show(((ar []).length:Int)+(ar [y]).length)*4≤_;omega),by omega⟩ ?_;(conv=>whnf);refine gGo ?_;refine W.loopG (fun n st=>n=0∧st=⟨[(0,.sl (ar []) false),(5,.osl 14 0 0 1 1),(6,.int .i64 0)],[(14,[.rows 1 (ar [0]) (some [])])],[14]⟩) 0 _ ⟨rfl,rfl⟩ gX ?_;rintro n st ⟨rfl,rfl⟩;refine gA ?_;refine gA ?_;(refine gE env hN (by kernel_rfl) ?_;conv=>whnf);refine gGs ?_;intros;refine W.leG (mp:=[]) (bo:=[14]) (st':=⟨[(5,.sl (ar [0]) false),(18,.bool false)],[],[]⟩)
   (LeG.mk' rfl rfl rfl ⟨⟨_,Lent.whole rfl rfl rfl rfl (.inl rfl),rfl⟩,⟨_,.refl _,rfl⟩,trivial⟩ .nil rfl rfl (by rw[hK];rfl)) ?_
  exact gR
 ·have sp:=fv [x*y,0];rw[rG] at sp;rw[aS h0,aS hy0];have hxy0:(x:Int)*y=((x*y:Nat):Int):=by rw[Int.natCast_mul]
  have ec0:IntKind.u64.wrap (0+IntKind.u64.wrap (IntKind.u64.wrap (IntKind.u64.wrap (x:Int)*IntKind.u64.wrap (y:Int))+IntKind.u64.wrap 0))=((x*y:Nat):Int):=by
   rw[u64w (n:=(x:Int)) (by omega),u64w (n:=(y:Int)) (by omega),u64w (n:=(0:Int)) (by omega),hxy0,u64w (n:=((x*y:Nat):Int)) (by omega),u64w (n:=((x*y:Nat):Int)+0) (by omega),u64w (by omega)];omega
  have ec:=(congrArg IntKind.u32.wrap ec0).trans (u32w (by omega));have es:=(congrArg (fun z:Int=>z.fdiv (2 ^ 32)) ec0).trans (show((x*y:Nat):Int).fdiv (2 ^ 32)=0 by rw[fP,Nat.div_eq_of_lt (by omega)];rfl);clear hxy0;have hlx:(ar [x]).length=1:=rfl;have hly:(ar [y]).length=1:=rfl;refine gEn env Tryz.func202 fun Γ hN hK hML=>?_;refine gGo ?_;intros;refine And.intro ⟨by omega,by omega,(by show(((ar [x]).length:Int)+(ar [y]).length)*4≤_;omega),by omega⟩ ?_;(conv=>whnf);refine gGo ?_;refine W.loopG (fun n st=>(n=1∧st=⟨[(0,.sl (ar [x]) false),(1,.sl (ar [y]) false),(5,.osl 14 0 0 2 2),(6,.int .i64 0)],[(14,[.rows 1 (ar [0,0]) (some [])])],[14]⟩)∨(n=0∧st=⟨[(0,.sl (ar [x]) false),(1,.sl (ar [y]) false),(5,.osl 14 0 0 2 2),(6,.int .i64 1)],[(14,[.rows 1 (ar [x*y,0]) (some [])])],[14]⟩)) 1 _ (.inl ⟨rfl,rfl⟩) gX ?_;rintro n st (⟨rfl,rfl⟩|⟨rfl,rfl⟩)
  ·refine gGo ?_;intros;refine W.loopG (fun n st=>(n=1∧st=⟨[(0,.sl (ar [x]) false),(1,.sl (ar [y]) false),(5,.osl 14 0 0 2 2),(6,.int .i64 0),(7,.int .u64 0),(8,.int .i64 0)],[(14,[.rows 1 (ar [0,0]) (some [])])],[14]⟩)∨(n=0∧st=⟨[(0,.sl (ar [x]) false),(1,.sl (ar [y]) false),(5,.osl 14 0 0 2 2),(6,.int .i64 0),(7,.int .u64 0),(8,.int .i64 1)],[(14,[.rows 1 (ar [x*y,0]) (some [])])],[14]⟩)) 1 _ (.inl ⟨rfl,rfl⟩) gX ?_;rintro n st (⟨rfl,rfl⟩|⟨rfl,rfl⟩)
   ·refine gGo ?_;intros;refine⟨_,_,by omega,.inr ⟨rfl,rfl⟩,[(14,14)],[],[],LeG.mk' rfl rfl rfl ⟨⟨_,.refl _,rfl⟩,⟨_,.refl _,rfl⟩,⟨_,.refl _,rfl⟩,⟨_,.refl _,rfl⟩,⟨_,.refl _,?_⟩,⟨_,.refl _,rfl⟩,trivial⟩ (.cons 14 rfl rfl (.refl _) ?_ .nil) rfl rfl (by rw[hK];rfl)⟩
    ·exact congrArg (V.int .u64) es
    ·exact congrArg (fun z=>[Blk.rows 1 [[V.int .u32 z],[V.int .u32 0]] (some [])]) ec.symm
   ·refine gGo ?_;intros;refine⟨_,_,by omega,.inr ⟨rfl,rfl⟩,⟨[(14,14)],[],[],.mq (.ci 14 .nil)⟩⟩
  ·refine gA ?_;refine gA ?_;(refine gE env hN (by kernel_rfl) ?_;conv=>whnf);refine gGs ?_;intros;refine W.leG (mp:=[]) (bo:=[14]) (st':=⟨[(5,.sl (ar [x*y,0]) false),(18,.bool false)],[],[]⟩)
    (LeG.mk' rfl rfl rfl ⟨⟨_,Lent.whole rfl rfl rfl rfl (.inl rfl),rfl⟩,⟨_,.refl _,rfl⟩,trivial⟩ .nil rfl rfl (by rw[hK];rfl)) ?_
   exact gR
def bigP(n:Nat):List V:=bigV false (wd n)
theorem bigF{l:List Nat}{n:Nat}(h:iv l=wd n):Spec Tryz.prog 199 [.bool false,.sl (ar l) false] [] (.agg (bigP n)) []:=by
 have sp:=xl false l;rw[h] at sp;exact sp
theorem kb(n:Nat)(h:n<4294967296):Spec Tryz.prog 204 [.int .i64 n] [] (.agg (bigP n)) []:=by
 have sp:=bigF (rG n);have e1:IntKind.u32.wrap (IntKind.u64.wrap (n:Int))=n:=by rw[u64w (by omega),u32w (by omega)]
 have e2:IntKind.u32.wrap ((IntKind.u64.wrap (n:Int)).fdiv (2 ^ min (32:Int).toNat IntKind.u64.bits))=0:=by
  rw[u64w (by omega),show min (32:Int).toNat IntKind.u64.bits=32 from rfl,fP,Nat.div_eq_of_lt (by omega)];rfl
 refine gEn env Tryz.func204 fun Γ hN hK hML=>?_;refine gGo ?_;rw[e1,e2];refine g ?_;(refine gM ?_;conv=>whnf);exact retH rfl (.norm _) rfl rfl rfl trivial
theorem fD(n:Nat):Spec Tryz.prog 196 [.agg (bigP n)] [] (.bool true) []:=by
 by_cases h:n=0
 ·subst h;rw[show bigP 0=[.bool false,.sl (ar []) false] from rfl];have hl:(ar []).length=0:=rfl;refine gEn env Tryz.func196 fun Γ hN hK hML=>?_;exact gR
 ·rw[show bigP n=[.bool false,.sl (ar [n]) false] by unfold bigP;rw[aS h];rfl];have hl:(ar [n]).length=1:=rfl;refine gEn env Tryz.func196 fun Γ hN hK hML=>?_;exact gR
theorem zF:Spec Tryz.prog 161 [.agg (bigP 0)] [] (.agg (bigP 0)) []:=by
 have sp:Spec Tryz.prog 199 [.bool true,.sl (ar []) false] [] (.agg (bigP 0)) []:=xl true [];rw[show bigP 0=[.bool false,.sl (ar []) false] from rfl] at *;refine gEn env Tryz.func161 fun Γ hN hK hML=>?_;refine g ?_;(refine gM ?_;conv=>whnf);exact retH rfl (.norm _) rfl rfl rfl trivial
theorem BN(n:Nat)(h:n<4294967296):Spec Tryz.prog 159 [.agg (bigP n),.agg (bigP 0)] [] (.agg (bigP n)) []:=by
 have sp1:=DD n h;have sp2:Spec Tryz.prog 199 [.bool false,.sl (ar (if n=0 then [0] else [n,0])) false] [] (.agg (bigP n)) []:=by
  refine bigF ?_;split
  ·rename_i e;subst e;exact iw 0
  ·exact rG n
 rw[show bigP 0=[.bool false,.sl (ar []) false] from rfl] at *;generalize (if n=0 then [0] else [n,0])=L at *;refine gEn env Tryz.func159 fun Γ hN hK hML=>?_;refine g ?_;(refine gM ?_;conv=>whnf);exact retH rfl (.norm _) rfl rfl rfl trivial
theorem rH(x y:Nat)(hx:x<4294967296)(hy:y<4294967296)(hy0:y≠0)(hxy:x*y<4294967296):Spec Tryz.prog 160 [.agg (bigP x),.agg (bigP y)] [] (.agg (bigP (x*y))) []:=by
 have sp1:=DE x y hx hy hy0 hxy;have sp2:=bigF (vL (x*y));refine gEn env Tryz.func160 fun Γ hN hK hML=>?_;refine g ?_;(refine gM ?_;conv=>whnf);exact retH rfl (.norm _) rfl rfl rfl trivial
theorem BO(x k:Nat):x / 2 ^ k=2*(x / 2 ^ (k+1))+x / 2 ^ k % 2:=by
 rw[Nat.pow_succ,←Nat.div_div_eq_div_mul];omega
theorem DF{X y b:Nat}(hy:y≠0)(hb:b<2):(2*X+b) % y=(if y≤2*(X % y)+b then 2*(X % y)+b-y else 2*(X % y)+b)∧(2*X+b) / y=2*(X / y)+(if y≤2*(X % y)+b then 1 else 0):=by
 have h1:X % y<y:=Nat.mod_lt _ (by omega);have h2:2*X+b=y*(2*(X / y))+(2*(X % y)+b):=by
  have:=Nat.div_add_mod X y;rw[←Nat.mul_assoc,Nat.mul_comm y 2,Nat.mul_assoc];omega
 split
 ·have h3:2*X+b=y*(2*(X / y)+1)+(2*(X % y)+b-y):=by rw[Nat.mul_add];omega
  have h4:2*(X % y)+b-y<y:=by omega
  rw[h3,Nat.mul_add_mod,Nat.mod_eq_of_lt h4,Nat.mul_add_div (by omega),Nat.div_eq_of_lt h4];exact⟨rfl,rfl⟩
 ·have h4:2*(X % y)+b<y:=by omega
  rw[h2,Nat.mul_add_mod,Nat.mod_eq_of_lt h4,Nat.mul_add_div (by omega),Nat.div_eq_of_lt h4];exact⟨rfl,rfl⟩
theorem EV{a q:Nat}{z:Int}(hq:q<32)(hz:z=(q:Int))(h:a*2 ^ (q+1)+2 ^ q<4294967296) :
  IntKind.u32.wrap ((BitVec.ofInt IntKind.u32.bits ((a*2 ^ (q+1):Nat):Int) |||BitVec.ofInt IntKind.u32.bits (IntKind.u32.wrap (1*2 ^ min (IntKind.u64.wrap z).toNat IntKind.u32.bits))).toNat:Nat)=((a*2 ^ (q+1)+2 ^ q:Nat):Int):=by
 have g:=DA a (2 ^ q) (q+1) (Nat.pow_lt_pow_right (by decide) (by omega));rw[Nat.mul_comm (2 ^ (q+1))] at g;have e:(2:Int) ^ q=((2 ^ q:Nat):Int):=by simp
 rw[hz,u64w (n:=(q:Int)) (by omega),Int.toNat_natCast,show min q IntKind.u32.bits=q from Nat.min_eq_left (show q≤32 by omega),Int.one_mul,e];generalize a*2 ^ (q+1)=P at *;generalize 2 ^ q=Q at *;rw[u32w (n:=(Q:Int)) (by omega)];exact AL _ _ (by omega) (by omega) g (by omega)
theorem xm(x y:Nat)(hx:x<1073741824)(hx0:x≠0)(hy:y<536870912)(hy0:y≠0):Spec Tryz.prog 226 [.sl (ar (wd x)) false,.sl (ar (wd y)) false] [] (.tup [.sl (ar (wd (x / y))) false,.sl (ar (wd (x % y))) false]) []:=by
 have sp0:=fv [x / y];rw[iw] at sp0;rw[aS hx0];have hlx:(ar [x]).length=1:=rfl;refine gEn env Tryz.func226 fun Γ hN hK hML=>?_;refine gGo ?_;intros;refine And.intro ⟨by omega,by omega,(by show((ar [x]).length:Int)*4≤_;omega),by omega⟩ ?_;(conv=>whnf);refine gGo ?_;intros;refine W.loopG (fun n st=>∃k:Nat,k≤32∧n=k∧st=⟨[(0,.sl (ar [x]) false),(1,.sl (ar (wd y)) false),(4,.osl 9 0 0 1 1),(5,.sl (ar (wd (x / 2 ^ k % y))) false),(6,.int .i64 ((k:Int)-1))],[(9,[.rows 1 (ar [x / 2 ^ k / y*2 ^ k]) (some [])])],[9]⟩)
  32 _ ⟨32,by omega,rfl,rfl⟩ ?_ ?_
 ·have e:x / 2 ^ 32=0:=Nat.div_eq_of_lt (by omega);rw[e,Nat.zero_mod,Nat.zero_div,Nat.zero_mul];exact⟨[(9,9)],[],[],LeG.mk' rfl rfl rfl ⟨⟨_,.refl _,rfl⟩,⟨_,.refl _,rfl⟩,⟨_,.refl _,rfl⟩,⟨_,.norm _,rfl⟩,⟨_,.refl _,rfl⟩,trivial⟩ (.ci 9 .nil) rfl rfl (by rw[hK];rfl)⟩
 rintro n st ⟨k,hk,rfl,rfl⟩;refine gT (fun hb=>?_) fun hb=>?_
 ·obtain⟨q,rfl⟩:∃q,n=q+1:=⟨n-1,by omega⟩
  have hq:((q+1:Nat):Int)-1=(q:Int):=by omega
  have hbit:=BO x q;have hst:=DF (X:=x / 2 ^ (q+1)) (y:=y) (b:=x / 2 ^ q % 2) hy0 (by omega);rw[←hbit] at hst;have hX:x / 2 ^ (q+1) % y<y:=Nat.mod_lt _ (by omega);have sp1:=DB x q (by omega) (by omega);have sp2:=mI (x / 2 ^ (q+1) % y) (x / 2 ^ q % 2) (by omega) (by omega);have hpow:(2*(x / 2 ^ (q+1) / y)+0)*2 ^ q=x / 2 ^ (q+1) / y*2 ^ (q+1):=by
   rw[Nat.add_zero,Nat.pow_succ,Nat.mul_comm 2,Nat.mul_assoc,Nat.mul_comm 2]
  have hpow1:(2*(x / 2 ^ (q+1) / y)+1)*2 ^ q=x / 2 ^ (q+1) / y*2 ^ (q+1)+2 ^ q:=by
   rw[Nat.add_mul,Nat.pow_succ,Nat.mul_comm 2,Nat.mul_assoc,Nat.mul_comm 2,Nat.one_mul]
  generalize x / 2 ^ (q+1) % y=r at *;have hb2:x / 2 ^ q % 2<2:=Nat.mod_lt _ (by omega);generalize x / 2 ^ q % 2=b at *;rw[←hq] at sp1;have sp3:=kY (2*r+b) y;refine g ?_;by_cases hge:y≤2*r+b
  ·rw[if_pos hge,if_pos hge] at hst;have sp4:=kZ (2*r+b) y (by omega) (by omega) hge;have h1:(((q+1:Nat):Int)-1).tdiv 32=0:=by rw[hq,Int.tdiv_eq_ediv_of_nonneg (by omega)];omega
   have h2:(((q+1:Nat):Int)-1).tmod 32=q:=by rw[hq,Int.tmod_eq_emod_of_nonneg (by omega)];omega
   have hQ:x / 2 ^ (q+1) / y*2 ^ (q+1)+2 ^ q≤x:=by
    have g1:x / 2 ^ q / y*2 ^ q≤x:=Nat.le_trans (Nat.mul_le_mul_right _ (Nat.div_le_self _ _)) (Nat.div_mul_le_self _ _);rw[hst.2,hpow1] at g1;exact g1
   have hor:=EV (a:=x / 2 ^ (q+1) / y) (show q<32 by omega) h2 (Nat.lt_of_le_of_lt hQ (by omega));refine gK (by unfold cmpN;split;omega;split<;>omega) ?_;(conv=>whnf);refine g ?_;refine al (r:=[.int .u32 ((x / 2 ^ (q+1) / y*2 ^ (q+1):Nat):Int)]) (by rw[h1];rfl) ?_;(conv=>whnf);refine gGo ?_;refine And.intro (by rw[h2,u64w (by omega)];omega) ?_;(conv=>whnf);refine gGo ?_;refine al (r:=[.int .u32 ((x / 2 ^ (q+1) / y*2 ^ (q+1):Nat):Int)]) (by rw[h1];rfl) ?_;(conv=>whnf);refine gGo ?_;refine⟨_,_,?_,⟨q,by omega,rfl,rfl⟩,[(9,9)],[],[],?_⟩
   ·omega
   ·rw[hst.1,hst.2,hpow1];refine LeG.mk' rfl rfl rfl ⟨⟨_,.refl _,rfl⟩,⟨_,.refl _,rfl⟩,⟨_,.refl _,rfl⟩,⟨_,.refl _,rfl⟩,⟨_,.refl _,(by show V.int .i64 (((q+1:Nat):Int)-1-1)=_;rw[hq])⟩,trivial⟩ (.cons 9 rfl rfl (.refl _) ?_ .nil) rfl rfl (by rw[hK];rfl);rw[h1];exact congrArg (fun z=>[Blk.rows 1 [[V.int .u32 z]] (some [])]) hor.symm
  ·rw[if_neg hge,if_neg hge] at hst;refine gL (by unfold cmpN;rw[if_pos (by omega)];decide) ?_;(conv=>whnf);refine gGo ?_;refine⟨_,_,?_,⟨q,by omega,rfl,rfl⟩,[(9,9)],[],[],?_⟩
   ·omega
   ·rw[hst.1,hst.2];exact LeG.mk' rfl rfl rfl ⟨⟨_,.refl _,rfl⟩,⟨_,.refl _,rfl⟩,⟨_,.refl _,rfl⟩,⟨_,.refl _,rfl⟩,⟨_,.refl _,(by show V.int .i64 (((q+1:Nat):Int)-1-1)=_;rw[hq])⟩,trivial⟩ (.cons 9 rfl rfl (.refl _) (by rw[hpow];rfl) .nil) rfl rfl (by rw[hK];rfl)
 ·have hn0:n=0:=by omega
  subst hn0;rw[show x / 2 ^ 0 % y=x % y by simp,show x / 2 ^ 0 / y*2 ^ 0=x / y by simp];refine W.leG (mp:=[]) (bo:=[9]) (st':=⟨[(4,.sl (ar [x / y]) false),(5,.sl (ar (wd (x % y))) false),(15,.bool false)],[],[]⟩)
   (LeG.mk' rfl rfl rfl ⟨⟨_,Lent.whole rfl rfl rfl rfl (.inl rfl),rfl⟩,⟨_,.refl _,rfl⟩,⟨_,.refl _,rfl⟩,trivial⟩ .nil rfl rfl (by rw[hK];rfl)) ?_
  exact gR
theorem jb{a b:Nat}(ha:a % 2=0)(hb:b % 2=1):Nat.gcd (a / 2) b=Nat.gcd a b:=by
 have e:a=2*(a / 2):=by omega
 have hc:Nat.Coprime 2 b:=by
  have h:=Nat.gcd_rec 2 b;rw[hb] at h;unfold Nat.Coprime;rw[h];decide
 conv=>rhs;rw[e]
 exact(Nat.Coprime.gcd_mul_left_cancel _ hc).symm
theorem k4{a b:Nat}(ha:a % 2=1)(hb:b % 2=0):Nat.gcd a (b / 2)=Nat.gcd a b:=by
 rw[Nat.gcd_comm,jb hb ha,Nat.gcd_comm]
theorem DG{a b:Nat}(ha:a % 2=0)(hb:b % 2=0):Nat.gcd a b=2*Nat.gcd (a / 2) (b / 2):=by
 have e:a=2*(a / 2):=by omega
 have e2:b=2*(b / 2):=by omega
 conv=>lhs;rw[e,e2]
 exact Nat.gcd_mul_left _ _ _
theorem qx{a b:Nat}(h:a≤b):Nat.gcd a (b-a)=Nat.gcd a b:=Nat.gcd_sub_self_right h
theorem xo(x y:Nat)(hx:x<1048576)(hy:y<1048576)(hx0:x≠0)(hy0:y≠0):Spec Tryz.prog 198 [.sl (ar (wd x)) false,.sl (ar (wd y)) false] [] (.sl (ar (wd (Nat.gcd x y))) false) []:=by
 have hgx:Nat.gcd x y≤x:=Nat.gcd_le_left y (by omega);have hgp:Nat.gcd x y≠0:=fun h=>hx0 (Nat.gcd_eq_zero_iff.1 h).1;rw[aS hx0,aS hy0];refine gEn env Tryz.func198 fun Γ hN hK hML=>?_;refine gGo ?_;refine W.loopG (fun n st=>∃a b k:Nat,a≠0∧b≠0∧a+k≤x∧b≤y∧Nat.gcd x y=Nat.gcd a b*2 ^ k∧n=a∧st=⟨[(0,.sl (ar [a]) false),(1,.sl (ar [b]) false),(5,.int .i64 k)],[],[]⟩)
  x _ ⟨x,y,0,hx0,hy0,by omega,by omega,by simp,rfl,rfl⟩ gX ?_
 rintro n st ⟨a,b,k,ha0,hb0,hak,hby,hg,rfl,rfl⟩;have hae:=ka n (by omega);have hbe:=ka b (by omega);have hla:(ar [n]).length=1:=rfl;have hlb:(ar [b]).length=1:=rfl;refine gT (fun hb=>?_) fun hb=>?_
 ·rw[hae] at hb;have h1:=hb;clear hb;refine gT (fun hb=>?_) fun hb=>?_
  ·rw[hbe] at hb;have s1:=gu n (by omega);have s2:=gu b (by omega);rw[aS (show n / 2≠0 by omega)] at s1;rw[aS (show b / 2≠0 by omega)] at s2;refine gGo ?_;(refine gPC (s1) ?_;conv=>whnf);refine gGo ?_;(refine gPC (s2) ?_;conv=>whnf);refine gGo ?_;refine⟨_,_,?_,⟨n / 2,b / 2,k+1,by omega,by omega,by omega,by omega,?_,rfl,rfl⟩,gX⟩
   ·omega
   ·rw[hg,DG (a:=n) (b:=b) (by omega) (by omega),Nat.pow_succ,Nat.mul_comm 2,Nat.mul_assoc,Nat.mul_comm 2]
  ·rw[hbe] at hb;have hodd:n % 2=1∨b % 2=1:=by omega
   refine gGo ?_;refine W.loopG (fun m st=>∃a' b':Nat,a'≠0∧a' < 1048576∧b' < 1048576∧Nat.gcd x y=Nat.gcd a' b' * 2 ^ k∧(a' % 2=1∨b' % 2=1)∧m=a' + b'∧st=⟨[(0,.sl (ar [a']) false),(1,.sl (ar (wd b')) false),(5,.int .i64 k)],[],[]⟩)
    (n+b) _ ⟨n,b,ha0,by omega,by omega,hg,hodd,rfl,rfl⟩ ⟨[],[],[],LeG.mk' rfl rfl rfl ⟨⟨_,.refl _,rfl⟩,⟨_,.refl _,by rw[aS hb0];rfl⟩,⟨_,.refl _,rfl⟩,trivial⟩ .nil rfl rfl (by rw[hK];rfl)⟩ ?_
   clear hae hbe hla hlb hodd hg ha0 hb0;rintro m st ⟨a,b,ha0,hax,hbx,hg,hodd,rfl,rfl⟩;by_cases hb0:b=0
   ·subst hb0;rw[Nat.gcd_zero_right] at hg;refine gA ?_;refine gA ?_;(refine gE env hN (by kernel_rfl) ?_;conv=>whnf);refine gGs ?_;intros;refine gL (by show ¬(0:Int)<0;decide) ?_;(conv=>whnf);refine gGo ?_;refine W.loopG (fun m st=>∃j:Nat,j≤k∧m=j∧st=⟨[(0,.sl (ar [a*2 ^ (k-j)]) false),(5,.int .i64 j)],[],[]⟩)
     k _ ⟨k,by omega,rfl,rfl⟩ ⟨[],[],[],LeG.mk' rfl rfl rfl ⟨⟨_,.refl _,by rw[Nat.sub_self,Nat.pow_zero,Nat.mul_one];rfl⟩,⟨_,.refl _,rfl⟩,trivial⟩ .nil rfl rfl (by rw[hK];rfl)⟩ ?_
    rintro m st ⟨j,hj,rfl,rfl⟩;refine gT (fun hb=>?_) fun hb=>?_
    ·obtain⟨q,rfl⟩:∃q,m=q+1:=⟨m-1,by omega⟩
     have h2:a*2 ^ (k-(q+1))≤a*2 ^ k:=Nat.mul_le_mul_left _ (Nat.pow_le_pow_right (by decide) (by omega));have h3:a*2 ^ (k-(q+1))≠0:=Nat.mul_ne_zero ha0 (Nat.ne_of_gt (Nat.pow_pos (by decide)));have e:2*(a*2 ^ (k-(q+1)))+0=a*2 ^ (k-q):=by
      rw[show k-q=k-(q+1)+1 by omega,Nat.pow_succ];rw[Nat.add_zero,Nat.mul_comm 2,Nat.mul_assoc]
     have h4:a*2 ^ (k-q)≠0:=Nat.mul_ne_zero ha0 (Nat.ne_of_gt (Nat.pow_pos (by decide)));have s1:=mI (a*2 ^ (k-(q+1))) 0 (by omega) (by omega);rw[e,aS h3,aS h4] at s1;refine g ?_;refine⟨_,_,?_,⟨q,by omega,rfl,rfl⟩,[],[],[],LeG.mk' rfl rfl rfl ⟨⟨_,.refl _,rfl⟩,⟨_,.refl _,(by show V.int .i64 (((q+1:Nat):Int)-1)=_;congr 1;omega)⟩,trivial⟩ .nil rfl rfl (by rw[hK];rfl)⟩;omega
    ·have hm0:m=0:=by omega
     subst hm0;rw[Nat.sub_zero,←hg,←aS (show Nat.gcd x y≠0 from hgp)];exact gR
   ·rw[aS hb0];have hlb:(ar [b]).length=1:=rfl;refine gGo ?_;intros;refine W.loopG (fun m st=>∃a':Nat,a'≠0∧a'≤a∧Nat.gcd a' b=Nat.gcd a b∧(a' % 2=1∨b % 2=1)∧m=a'∧st=⟨[(0,.sl (ar [a']) false),(1,.sl (ar [b]) false),(5,.int .i64 k)],[],[]⟩)
     a _ ⟨a,ha0,by omega,rfl,hodd,rfl,rfl⟩ gX ?_
    clear hlb;rintro m st ⟨a1,h1,h2,h3,h4,rfl,rfl⟩;have hme:=ka m (by omega);refine gT (fun hb=>?_) fun hb=>?_
    ·rw[hme] at hb;have s1:=gu m (by omega);rw[aS (show m / 2≠0 by omega)] at s1;refine g ?_;refine⟨_,_,?_,⟨m / 2,by omega,by omega,?_,.inr (by omega),rfl,rfl⟩,gX⟩
     ·omega
     ·rw[jb (by omega) (by omega),h3]
    ·rw[hme] at hb;have hm1:m % 2=1:=by omega
     clear hb hme;refine gGo ?_;refine W.loopG (fun m' st=>∃b':Nat,b'≠0∧b'≤b∧Nat.gcd m b'=Nat.gcd a b∧m'=b'∧st=⟨[(0,.sl (ar [m]) false),(1,.sl (ar [b']) false),(5,.int .i64 k)],[],[]⟩)
      b _ ⟨b,hb0,by omega,h3,rfl,rfl⟩ gX ?_
     rintro m' st ⟨b1,g1,g2,g3,rfl,rfl⟩;have hme:=ka m' (by omega);refine gT (fun hb=>?_) fun hb=>?_
     ·rw[hme] at hb;have s1:=gu m' (by omega);rw[aS (show m' / 2≠0 by omega)] at s1;refine g ?_;refine⟨_,_,?_,⟨m' / 2,by omega,by omega,?_,rfl,rfl⟩,gX⟩
      ·omega
      ·rw[k4 (by omega) (by omega),g3]
     ·rw[hme] at hb;have hm2:m' % 2=1:=by omega
      clear hb hme;have s2:=kY m m';rw[aS h1,aS g1] at s2;refine g ?_;by_cases hlt:m' < m
      ·have s3:=kZ m m' (by omega) (by omega) (by omega);rw[aS h1,aS g1] at s3;refine gK (by unfold cmpN;rw[if_neg (by omega),if_pos hlt];decide) ?_;(conv=>whnf);refine g ?_;refine⟨_,_,?_,⟨m',m-m',by omega,by omega,by omega,?_,.inl hm2,rfl,rfl⟩,gX⟩
       ·omega
       ·rw[hg,←g3,qx (by omega),Nat.gcd_comm]
      ·have s3:=kZ m' m (by omega) (by omega) (by omega);rw[aS h1,aS g1] at s3;refine gL (by unfold cmpN;split<;>omega) ?_;(conv=>whnf);refine g ?_;refine⟨_,_,?_,⟨m,m' - m,by omega,by omega,by omega,?_,.inl hm1,rfl,rfl⟩,gX⟩
       ·omega
       ·rw[hg,←g3,qx (by omega)]
 ·rw[hae] at hb;have hodd:n % 2=1∨b % 2=1:=by omega
  refine gGo ?_;refine W.loopG (fun m st=>∃a' b':Nat,a'≠0∧a' < 1048576∧b' < 1048576∧Nat.gcd x y=Nat.gcd a' b' * 2 ^ k∧(a' % 2=1∨b' % 2=1)∧m=a' + b'∧st=⟨[(0,.sl (ar [a']) false),(1,.sl (ar (wd b')) false),(5,.int .i64 k)],[],[]⟩)
   (n+b) _ ⟨n,b,ha0,by omega,by omega,hg,hodd,rfl,rfl⟩ ⟨[],[],[],LeG.mk' rfl rfl rfl ⟨⟨_,.refl _,rfl⟩,⟨_,.refl _,by rw[aS hb0];rfl⟩,⟨_,.refl _,rfl⟩,trivial⟩ .nil rfl rfl (by rw[hK];rfl)⟩ ?_
  clear hae hbe hla hlb hodd hg ha0 hb0;rintro m st ⟨a,b,ha0,hax,hbx,hg,hodd,rfl,rfl⟩;by_cases hb0:b=0
  ·subst hb0;rw[Nat.gcd_zero_right] at hg;refine gA ?_;refine gA ?_;(refine gE env hN (by kernel_rfl) ?_;conv=>whnf);refine gGs ?_;intros;refine gL (by show ¬(0:Int)<0;decide) ?_;(conv=>whnf);refine gGo ?_;refine W.loopG (fun m st=>∃j:Nat,j≤k∧m=j∧st=⟨[(0,.sl (ar [a*2 ^ (k-j)]) false),(5,.int .i64 j)],[],[]⟩)
    k _ ⟨k,by omega,rfl,rfl⟩ ⟨[],[],[],LeG.mk' rfl rfl rfl ⟨⟨_,.refl _,by rw[Nat.sub_self,Nat.pow_zero,Nat.mul_one];rfl⟩,⟨_,.refl _,rfl⟩,trivial⟩ .nil rfl rfl (by rw[hK];rfl)⟩ ?_
   rintro m st ⟨j,hj,rfl,rfl⟩;refine gT (fun hb=>?_) fun hb=>?_
   ·obtain⟨q,rfl⟩:∃q,m=q+1:=⟨m-1,by omega⟩
    have h2:a*2 ^ (k-(q+1))≤a*2 ^ k:=Nat.mul_le_mul_left _ (Nat.pow_le_pow_right (by decide) (by omega));have h3:a*2 ^ (k-(q+1))≠0:=Nat.mul_ne_zero ha0 (Nat.ne_of_gt (Nat.pow_pos (by decide)));have e:2*(a*2 ^ (k-(q+1)))+0=a*2 ^ (k-q):=by
     rw[show k-q=k-(q+1)+1 by omega,Nat.pow_succ];rw[Nat.add_zero,Nat.mul_comm 2,Nat.mul_assoc]
    have h4:a*2 ^ (k-q)≠0:=Nat.mul_ne_zero ha0 (Nat.ne_of_gt (Nat.pow_pos (by decide)));have s1:=mI (a*2 ^ (k-(q+1))) 0 (by omega) (by omega);rw[e,aS h3,aS h4] at s1;refine g ?_;refine⟨_,_,?_,⟨q,by omega,rfl,rfl⟩,[],[],[],LeG.mk' rfl rfl rfl ⟨⟨_,.refl _,rfl⟩,⟨_,.refl _,(by show V.int .i64 (((q+1:Nat):Int)-1)=_;congr 1;omega)⟩,trivial⟩ .nil rfl rfl (by rw[hK];rfl)⟩;omega
   ·have hm0:m=0:=by omega
    subst hm0;rw[Nat.sub_zero,←hg,←aS (show Nat.gcd x y≠0 from hgp)];exact gR
  ·rw[aS hb0];have hlb:(ar [b]).length=1:=rfl;refine gGo ?_;intros;refine W.loopG (fun m st=>∃a':Nat,a'≠0∧a'≤a∧Nat.gcd a' b=Nat.gcd a b∧(a' % 2=1∨b % 2=1)∧m=a'∧st=⟨[(0,.sl (ar [a']) false),(1,.sl (ar [b]) false),(5,.int .i64 k)],[],[]⟩)
    a _ ⟨a,ha0,by omega,rfl,hodd,rfl,rfl⟩ gX ?_
   clear hlb;rintro m st ⟨a1,h1,h2,h3,h4,rfl,rfl⟩;have hme:=ka m (by omega);refine gT (fun hb=>?_) fun hb=>?_
   ·rw[hme] at hb;have s1:=gu m (by omega);rw[aS (show m / 2≠0 by omega)] at s1;refine g ?_;refine⟨_,_,?_,⟨m / 2,by omega,by omega,?_,.inr (by omega),rfl,rfl⟩,gX⟩
    ·omega
    ·rw[jb (by omega) (by omega),h3]
   ·rw[hme] at hb;have hm1:m % 2=1:=by omega
    clear hb hme;refine gGo ?_;refine W.loopG (fun m' st=>∃b':Nat,b'≠0∧b'≤b∧Nat.gcd m b'=Nat.gcd a b∧m'=b'∧st=⟨[(0,.sl (ar [m]) false),(1,.sl (ar [b']) false),(5,.int .i64 k)],[],[]⟩)
     b _ ⟨b,hb0,by omega,h3,rfl,rfl⟩ gX ?_
    rintro m' st ⟨b1,g1,g2,g3,rfl,rfl⟩;have hme:=ka m' (by omega);refine gT (fun hb=>?_) fun hb=>?_
    ·rw[hme] at hb;have s1:=gu m' (by omega);rw[aS (show m' / 2≠0 by omega)] at s1;refine g ?_;refine⟨_,_,?_,⟨m' / 2,by omega,by omega,?_,rfl,rfl⟩,gX⟩
     ·omega
     ·rw[k4 (by omega) (by omega),g3]
    ·rw[hme] at hb;have hm2:m' % 2=1:=by omega
     clear hb hme;have s2:=kY m m';rw[aS h1,aS g1] at s2;refine g ?_;by_cases hlt:m' < m
     ·have s3:=kZ m m' (by omega) (by omega) (by omega);rw[aS h1,aS g1] at s3;refine gK (by unfold cmpN;rw[if_neg (by omega),if_pos hlt];decide) ?_;(conv=>whnf);refine g ?_;refine⟨_,_,?_,⟨m',m-m',by omega,by omega,by omega,?_,.inl hm2,rfl,rfl⟩,gX⟩
      ·omega
      ·rw[hg,←g3,qx (by omega),Nat.gcd_comm]
     ·have s3:=kZ m' m (by omega) (by omega) (by omega);rw[aS h1,aS g1] at s3;refine gL (by unfold cmpN;split<;>omega) ?_;(conv=>whnf);refine g ?_;refine⟨_,_,?_,⟨m,m' - m,by omega,by omega,by omega,?_,.inl hm1,rfl,rfl⟩,gX⟩
      ·omega
      ·rw[hg,←g3,qx (by omega)]
def eJ(p q:Nat):List V:=bigP p++bigP q
theorem xp(p q:Nat):eJ p q=[.bool false,.sl (ar (wd p)) false,.bool false,.sl (ar (wd q)) false]:=rfl
def bZ(x y:Nat):Nat×Nat:=if x=0 then(0,1) else(x / Nat.gcd x y,y / Nat.gcd x y)
theorem xr(x y:Nat)(hx:x<1048576)(hy:y<1048576)(hy0:y≠0):Spec Tryz.prog 219 [.agg (bigP x),.agg (bigP y)] [] (.agg (eJ (bZ x y).1 (bZ x y).2)) []:=by
 by_cases hx0:x=0
 ·subst hx0;have sp:=kb 1 (by omega);rw[show(bZ 0 y)=(0,1) from rfl];rw[show bigP 0=[.bool false,.sl (ar []) false] from rfl];have hl0:(ar []).length=0:=rfl;refine gEn env Tryz.func219 fun Γ hN hK hML=>?_;(refine g ?_;intros);(refine gM ?_;conv=>whnf);exact retH rfl (.norm _) rfl rfl rfl trivial
 ·have hg:Nat.gcd x y≠0:=fun h=>hx0 (Nat.gcd_eq_zero_iff.1 h).1;have hgx:Nat.gcd x y≤x:=Nat.gcd_le_left y (by omega);have sp1:=xo x y hx hy hx0 hy0;have sp2:=xm x (Nat.gcd x y) (by omega) hx0 (by omega) hg;have sp3:=xm y (Nat.gcd x y) (by omega) hy0 (by omega) hg;have sp4:=bigF (vL (x / Nat.gcd x y));have sp5:=bigF (vL (y / Nat.gcd x y));rw[show(bZ x y)=(x / Nat.gcd x y,y / Nat.gcd x y) by unfold bZ;rw[if_neg hx0]];rw[show bigP x=[.bool false,.sl (ar (wd x)) false] from rfl,show bigP y=[.bool false,.sl (ar (wd y)) false] from rfl];generalize Nat.gcd x y=g at *;have hlx:(ar (wd x)).length=1:=by rw[aS hx0];rfl
  refine gEn env Tryz.func219 fun Γ hN hK hML=>?_;refine gGo ?_;intros;(refine gPC (sp1) ?_;conv=>whnf);refine gGo ?_;(refine gPC (sp2) ?_;conv=>whnf);refine gGo ?_;(refine gPC (sp3) ?_;conv=>whnf);refine gGo ?_;(refine gPC (sp4) ?_;conv=>whnf);refine gGo ?_;(refine gPC (sp5) ?_;conv=>whnf);refine gGo ?_;(refine gM ?_;conv=>whnf);exact retH rfl (.norm _) rfl rfl rfl trivial
theorem BP(x y:Nat)(hx:x<1048576)(hy:y<1048576)(hy0:y≠0):Spec Tryz.prog 203 [.agg (bigP x),.agg (bigP y)] [] (.tup [.agg (eJ (bZ x y).1 (bZ x y).2),.int .i64 0]) []:=by
 have sp1:=fD x;have sp2:=fD y;have sp3:=xr x y hx hy hy0;rw[show bigP x=[.bool false,.sl (ar (wd x)) false] from rfl,show bigP y=[.bool false,.sl (ar (wd y)) false] from rfl] at *;have hly:(ar (wd y)).length=1:=by rw[aS hy0];rfl
 generalize (bZ x y).1=p at *;generalize (bZ x y).2=q at *;refine gEn env Tryz.func203 fun Γ hN hK hML=>?_;refine gGo ?_;(refine gPC (sp1) ?_;conv=>whnf);refine gGo ?_;(refine gPC (sp2) ?_;conv=>whnf);refine gGo ?_;intros;(refine gPC (sp3) ?_;conv=>whnf);refine gGo ?_;(refine gM ?_;conv=>whnf);exact retH rfl (.norm _) rfl rfl rfl trivial
theorem zG(x y:Nat)(hx:x<1048576)(hy:y<1048576)(hy0:y≠0):Spec Tryz.prog 162 [.int .i64 x,.int .i64 y] [] (.tup [.agg (eJ (bZ x y).1 (bZ x y).2),.int .i64 0]) []:=by
 have sp1:=kb x (by omega);have sp2:=kb y (by omega);have sp3:=BP x y hx hy hy0;generalize (bZ x y).1=p at *;generalize (bZ x y).2=q at *;refine gEn env Tryz.func162 fun Γ hN hK hML=>?_;refine gGo ?_;(refine gPC (sp1) ?_;conv=>whnf);refine gGo ?_;(refine gPC (sp2) ?_;conv=>whnf);refine gGo ?_;(refine gPC (sp3) ?_;conv=>whnf);refine gGo ?_;(refine gM ?_;conv=>whnf);exact retH rfl (.norm _) rfl rfl rfl trivial
theorem ur(x y:Nat)(hx:x<1048576)(hy:y<1048576)(hy0:y≠0):Spec Tryz.prog 117 [.int .i64 x,.int .i64 y] [] (.agg (eJ (bZ x y).1 (bZ x y).2)) []:=by
 have sp:=zG x y hx hy hy0;generalize (bZ x y).1=p at *;generalize (bZ x y).2=q at *;refine gEn env Tryz.func117 fun Γ hN hK hML=>?_;refine g ?_;(refine gM ?_;conv=>whnf);exact retH rfl (.norm _) rfl rfl rfl trivial
theorem rI(x:Nat)(hx:x<1048576):Spec Tryz.prog 66 [.int .i64 x] [] (.agg (eJ (bZ x 1).1 (bZ x 1).2)) []:=by
 have sp:=ur x 1 hx (by omega) (by omega);generalize (bZ x 1).1=p at *;generalize (bZ x 1).2=q at *;refine gEn env Tryz.func66 fun Γ hN hK hML=>?_;refine g ?_;(refine gM ?_;conv=>whnf);exact retH rfl (.norm _) rfl rfl rfl trivial
theorem pE:Spec Tryz.prog 30 [] [] (.agg (eJ 0 1)) []:=by
 have sp:Spec Tryz.prog 66 [.int .i64 0] [] (.agg (eJ 0 1)) []:=rI 0 (by omega);refine gEn env Tryz.func30 fun Γ hN hK hML=>?_;refine g ?_;(refine gM ?_;conv=>whnf);exact retH rfl (.norm _) rfl rfl rfl trivial
structure FracOK (p q:Nat):Prop where
 lt:p<1048576∧q<1048576
 ne:q≠0
 low:(p=0∧q=1)∨(p≠0∧Nat.gcd p q=1)
theorem xu{x y:Nat}(hx:x<1048576)(hy:y<1048576)(hy0:y≠0):FracOK (bZ x y).1 (bZ x y).2:=by
 unfold bZ;by_cases hx0:x=0
 ·rw[if_pos hx0];exact⟨⟨by decide,by decide⟩,by decide,.inl ⟨rfl,rfl⟩⟩
 ·rw[if_neg hx0];have hg:0<Nat.gcd x y:=Nat.gcd_pos_of_pos_left _ (by omega);have h1:x / Nat.gcd x y≠0:=Nat.ne_of_gt (Nat.div_pos (Nat.gcd_le_left y (by omega)) hg);have h2:y / Nat.gcd x y≠0:=Nat.ne_of_gt (Nat.div_pos (Nat.gcd_le_right x (by omega)) hg);have h3:x / Nat.gcd x y≤x:=Nat.div_le_self _ _;have h4:y / Nat.gcd x y≤y:=Nat.div_le_self _ _;refine⟨⟨?_,?_⟩,h2,.inr ⟨h1,?_⟩⟩
  ·show x / Nat.gcd x y<_;omega
  ·show y / Nat.gcd x y<_;omega
  ·exact Nat.gcd_div_gcd_div_gcd_of_pos_left (by omega)
theorem lZ(p q:Nat)(h:FracOK p q):Spec Tryz.prog 158 [.agg (eJ p q)] [] (.bool true) []:=by
 have sp1:=fD p;have sp2:=fD q;have hlq:(ar (wd q)).length=1:=by rw[aS h.ne];rfl
 rcases h.low with⟨rfl,rfl⟩|⟨h1,h2⟩
 ·have sp3:=kY 1 1;rw[aS (show 1≠0 by decide),show cmpN 1 1=0 from rfl] at sp3;rw[xp,iQ];have hl0:(ar []).length=0:=rfl;refine gEn env Tryz.func158 fun Γ hN hK hML=>?_;refine gGo ?_;(refine gPC (sp1) ?_;conv=>whnf);refine gGo ?_;(refine gPC (sp2) ?_;conv=>whnf);refine gGo ?_;intros;(refine gPC (sp3) ?_;conv=>whnf);refine gGr ?_;exact ret0 rfl rfl rfl
 ·have sp4:=xo p q h.lt.1 h.lt.2 h1 h.ne;rw[h2] at sp4;have sp3:=kY 1 1;rw[aS (show 1≠0 by decide),show cmpN 1 1=0 from rfl] at sp3;rw[aS (show 1≠0 by decide)] at sp4;have hlp:(ar (wd p)).length=1:=by rw[aS h1];rfl
  rw[xp];refine gEn env Tryz.func158 fun Γ hN hK hML=>?_;refine gGo ?_;(refine gPC (sp1) ?_;conv=>whnf);refine gGo ?_;(refine gPC (sp2) ?_;conv=>whnf);refine gGo ?_;intros;(refine gPC (sp4) ?_;conv=>whnf);refine gGo ?_;(refine gPC (sp3) ?_;conv=>whnf);refine gGr ?_;exact ret0 rfl rfl rfl
theorem DH:FracOK 0 1:=⟨⟨by decide,by decide⟩,by decide,.inl ⟨rfl,rfl⟩⟩
theorem xv(p q:Nat)(h:FracOK p q):Spec Tryz.prog 116 [.agg (eJ p q),.agg (eJ 0 1)] [] (.int .i64 (if p=0 then 0 else 1)) []:=by
 have sp1:=lZ p q h;have sp2:=lZ 0 1 DH;have sp3:=rH p 1 (by have:=h.lt;omega) (by decide) (by decide) (by have:=h.lt;omega);have sp4:=rH 0 q (by decide) (by have:=h.lt;omega) h.ne (by rw[Nat.zero_mul];decide);have sp5:=zF;have sp6:=BN p (by have:=h.lt;omega);rw[Nat.mul_one] at sp3;rw[Nat.zero_mul] at sp4;refine gEn env Tryz.func116 fun Γ hN hK hML=>?_;refine gGo ?_;(refine gPC (sp1) ?_;conv=>whnf);refine gGo ?_;(refine gPC (sp2) ?_;conv=>whnf);refine gGo ?_;(refine gPC (sp3) ?_;conv=>whnf);refine gGo ?_;(refine gPC (sp4) ?_;conv=>whnf);refine gGo ?_;(refine gPC (sp5) ?_;conv=>whnf);refine gGo ?_;(refine gPC (sp6) ?_;conv=>whnf);refine gGo ?_;intros;by_cases h0:p=0
 ·subst h0;rw[if_pos rfl];refine gK (by rfl) ?_;(conv=>whnf);exact gR
 ·rw[if_neg h0];refine gL (by show ¬(((ar (wd p)).length:Int)=0);rw[aS h0];show ¬((1:Int)=0);decide) ?_;(conv=>whnf);exact gR
theorem k5(p q:Nat)(h:FracOK p q):Spec Tryz.prog 65 [.agg (eJ p q),.agg (eJ 0 1)] [] (.bool false) []:=by
 have sp1:=xv p q h;have hr:0≤(if p=0 then(0:Int) else 1):=by split<;>decide
 generalize (if p=0 then(0:Int) else 1)=r at *;refine gEn env Tryz.func65 fun Γ hN hK hML=>?_;exact gR
theorem l6(c:Column)(hc:c.cells.length≤1000000):Spec Tryz.prog 118 [.agg c.row] [] (.omap 6 0) [(6,.map (sumE (cntC c.cells)) (cntC c.cells).length (some []))]:=by
 have hl:=aF c.cells;refine gEn env Tryz.func118 fun Γ hN hK hML=>?_;refine gGo ?_;intros;refine W.loopG (fun n st=>∃j:Nat,j≤c.cells.length∧n=c.cells.length-j∧st=⟨[(3,.omap 6 0),(8,.sl (aj c.cells) false),(9,.int .i64 (aj c.cells).length),(10,.int .i64 j)],[(6,[.map (sumE (cntC (c.cells.take j))) (cntC (c.cells.take j)).length (some [])])],[6]⟩)
  c.cells.length _ ⟨0,by omega,by omega,rfl⟩ gX ?_
 rintro n st ⟨j,hj,rfl,rfl⟩;refine gT (fun hb=>?_) fun hb=>?_
 ·have hlt:j<c.cells.length:=by omega
  have hg:=aY hlt;have hsn:=BE hlt;have hlb:=zA (c.cells.take j);have hjl:(c.cells.take j).length=j:=by simp;omega
  rw[hjl] at hlb;generalize cntC (c.cells.take j)=T0 at *;generalize hT:cntC (c.cells.take (j+1))=T1 at *;generalize c.cells[j]=x at *;refine g ?_;cases hnull:x.null with
  |true =>
   have hsn:T1=T0:=by rw[hsn];unfold dj;rw[if_pos hnull]
   refine gGo ?_;refine⟨_,_,?_,⟨j+1,by omega,rfl,rfl⟩,[(6,6)],[],[],LeG.mq (.cons 6 rfl rfl (.refl _) ?_ .nil)⟩
   ·omega
   ·rw[hT,hsn];rfl
  |false =>
   obtain⟨r0,hr1,hr2⟩:=gr T0 x.text;obtain⟨r1,hq1,hq2⟩:=rt T0 x.text 1;have hlb:=hlb x.text;have hsn:T1=addT T0 x.text 1:=by rw[hsn];unfold dj;rw[if_neg (by rw[hnull];decide)]
   refine gGo ?_;refine bl (by kernel_rfl) ?_;(conv=>whnf);refine⟨r0,hr1,?_⟩;rw[hr2];(conv=>whnf);refine gGo ?_;refine⟨r1,hq1,?_⟩;cases r1 with
   |none =>
    (conv=>whnf);refine gGo ?_;refine⟨_,_,?_,⟨j+1,by omega,rfl,rfl⟩,[(6,6)],[],[],LeG.mq (.cons 6 rfl rfl (.refl _) ?_ .nil)⟩
    ·omega
    ·rw[hT,hsn,←hq2.1,hq2.2];rfl
   |some p =>
    obtain⟨jj,bb,vv⟩:=p;(conv=>whnf);refine gGo ?_;refine⟨_,_,?_,⟨j+1,by omega,rfl,rfl⟩,[(6,6)],[],[],LeG.mq (.cons 6 rfl rfl (.refl _) ?_ .nil)⟩
    ·omega
    ·rw[hT,hsn,←hq2.1,hq2.2];rfl
 ·have hje:j=c.cells.length:=by omega
  rw[hje,List.take_length];refine gGo ?_;(refine gM ?_;conv=>whnf);exact retH rfl (.refl _) rfl rfl rfl ⟨rfl,rfl,trivial⟩
structure Ah where
 common:Int
 onlyA:Int
 mostA:Int
 mostB:Int
 lostA:Int
 lostB:Int
def ahS(T U:List (Str×Int))(a:Ah)(j:Nat):Ah:=
 if a8 U (T.getD j ([],0)).1=0 then⟨a.common,a.onlyA+1,a.mostA,a.mostB,a.lostA,a.lostB⟩
 else⟨a.common+1,a.onlyA,max a.mostA (valI T j),max a.mostB (a8 U (T.getD j ([],0)).1),a.lostA-valI T j,a.lostB-a8 U (T.getD j ([],0)).1⟩
def ahL(T U:List (Str×Int))(ra rb:Int)(l:List Nat):Ah:=l.foldl (ahS T U) ⟨0,0,0,0,ra,rb⟩
def ahM(T U:List (Str×Int))(ra rb:Int):Ah:=ahL T U ra rb (List.range T.length)
theorem DI(T U:List (Str×Int))(a:Ah)(i j:Nat):ahS T U (ahS T U a i) j=ahS T U (ahS T U a j) i:=by
 unfold ahS;by_cases h:a8 U (T.getD i ([],0)).1=0<;>by_cases h':a8 U (T.getD j ([],0)).1=0<;>simp only[h,h',if_true,if_false,Ah.mk.injEq,true_and,and_true];omega
theorem DJ(T U:List (Str×Int))(ra rb:Int){l:List Nat}(h:l.Perm (List.range T.length)):ahL T U ra rb l=ahM T U ra rb:=by
 unfold ahM ahL;generalize (Ah.mk 0 0 0 0 ra rb)=a;generalize List.range T.length=l' at h
 induction h generalizing a with
 |nil=>rfl
 |cons x _ ih=>exact ih _
 |swap x y l=>simp only[List.foldl_cons];rw[DI]
 |trans _ _ ih1 ih2=>rw[ih1,ih2]
theorem DK(T U:List (Str×Int))(ra rb:Int)(l:List Nat)(j:Nat):ahL T U ra rb (l++[j])=ahS T U (ahL T U ra rb l) j:=by
 unfold ahL;rw[List.foldl_append];rfl
structure AhOK (a:Ah) (ra rb:Int) (n:Nat):Prop where
 c:0≤a.common∧a.common≤n
 o:0≤a.onlyA∧a.onlyA≤n
 s:a.common+a.onlyA≤n
 ma:0≤a.mostA∧a.mostA≤1000000
 mb:0≤a.mostB∧a.mostB≤1000000
 la:a.lostA≤ra∧ra-n*1000000≤a.lostA
 lb:a.lostB≤rb∧rb-n*1000000≤a.lostB
theorem ut(T U:List (Str×Int))(ra rb:Int)(hT:∀p∈T,0≤p.2∧p.2≤1000000)(hU:∀p∈U,0≤p.2∧p.2≤1000000)(l:List Nat):AhOK (ahL T U ra rb l) ra rb l.length:=by
 have hv:∀j,0≤valI T j∧valI T j≤1000000:=fun j=>by
  unfold valI;rw[List.getD_eq_getElem?_getD];cases h:T[j]? with
  |none=>simp
  |some p=>exact hT p (List.mem_of_getElem? h)
 have hw:∀s,0≤a8 U s∧a8 U s≤1000000:=oL (by decide) hU;have:∀(l:List Nat) (a:Ah) (n:Nat),AhOK a ra rb n→AhOK (l.foldl (ahS T U) a) ra rb (n+l.length):=by
  intro l
  induction l with
  |nil=>intro a n h;exact h
  |cons j l ih =>
   intro a n h;have hj:=hv j;have hu:=hw (T.getD j ([],0)).1;have:=ih (ahS T U a j) (n+1) (by
    obtain⟨c,o,s,ma,mb,la,lb⟩:=h
    unfold ahS
    split
    ·exact⟨by simp only;omega,by simp only;omega,by simp only;omega,by simp only;omega,by simp only;omega,by simp only;omega,by simp only;omega⟩
    ·exact⟨by simp only;omega,by simp only;omega,by simp only;omega,by simp only;omega,by simp only;omega,by simp only;omega,by simp only;omega⟩)
   simp only[List.foldl_cons,List.length_cons];rw[show n+(l.length+1)=n+1+l.length by omega];exact this
 have:=this l ⟨0,0,0,0,ra,rb⟩ 0 ⟨by simp,by simp,by simp,by simp,by simp,by simp,by simp⟩;rw[Nat.zero_add] at this;exact this
def oR(a:Table)(i:Nat)(b:Table)(j:Nat):List Int:=
 let T:=cntC ((a.cols.map Column.cells).getD i [])
 let U:=cntC ((b.cols.map Column.cells).getD j [])
 let x:=ahM T U (ab a) (ab b)
 [a.id,i,b.id,j,x.common,x.onlyA,U.length-x.common,x.mostA,x.mostB,x.lostA,x.lostB]
def fQ(a:Table)(i:Int)(b:Table)(j:Int):List Int×Int:=
 if ¬(aR a=true∧aR b=true) then(relZ,1) else if ¬(0≤i∧i<a.cols.length∧0≤j∧j<b.cols.length) then(relZ,2) else(oR a i.toNat b j.toNat,0)
theorem BQ(a:Table)(i:Int)(b:Table)(j:Int):Spec Tryz.prog 67 [.agg a.row,.int .i64 i,.agg b.row,.int .i64 j] [] (.tup [.agg (eV (fQ a i b j).1),.int .i64 (fQ a i b j).2]) []:=by
 have sp1:=iL a;have sp2:=iL b;have hca:=aB a.cols;have hcb:=aB b.cols;refine gEn env Tryz.func67 fun Γ hN hK hML=>?_;refine gGo ?_;cases ha:aR a with
 |false =>
  have he:fQ a i b j=(relZ,1):=by unfold fQ;rw[if_pos];simp[ha]
  rw[ha] at sp1;rw[he];(refine gPC (sp1) ?_;conv=>whnf);refine gGo ?_;(refine gM ?_;conv=>whnf);exact retH rfl (.norm _) rfl rfl rfl trivial
 |true =>
  rw[ha] at sp1;(refine gPC (sp1) ?_;conv=>whnf);refine gGo ?_;cases hb:aR b with
  |false =>
   have he:fQ a i b j=(relZ,1):=by unfold fQ;rw[if_pos];simp[hb]
   rw[hb] at sp2;rw[he];refine g ?_;(refine gM ?_;conv=>whnf);exact retH rfl (.norm _) rfl rfl rfl trivial
  |true =>
   rw[hb] at sp2;refine g ?_;by_cases hr:0≤i∧i<a.cols.length∧0≤j∧j<b.cols.length
   ·obtain⟨k,rfl⟩:∃k:Nat,i=k:=⟨i.toNat,by omega⟩
    obtain⟨q,rfl⟩:∃q:Nat,j=q:=⟨j.toNat,by omega⟩
    have he:fQ a k b q=(oR a k b q,0):=by unfold fQ;rw[if_neg (by simp[ha,hb]),if_neg (by simpa using hr)];rfl
    have hk:k<a.cols.length:=by omega
    have hq:q<b.cols.length:=by omega
    have hva:=cq ha;have hvb:=cq hb;have hxa:=aW hk;have hxb:=aW hq;have lA:=hva.2 _ (List.getElem_mem hk);have lB:=hvb.2 _ (List.getElem_mem hq);have sp3:=l6 a.cols[k] (by omega);have sp4:=l6 b.cols[q] (by omega);have mA:=lD a.cols[k].cells;have mB:=lD b.cols[q].cells;have sp5:=dP a;have sp6:=dP b;have hL:oR a k b q=[a.id,k,b.id,q,(ahM (cntC a.cols[k].cells) (cntC b.cols[q].cells) (ab a) (ab b)).common,(ahM (cntC a.cols[k].cells) (cntC b.cols[q].cells) (ab a) (ab b)).onlyA,(cntC b.cols[q].cells).length-(ahM (cntC a.cols[k].cells) (cntC b.cols[q].cells) (ab a) (ab b)).common,(ahM (cntC a.cols[k].cells) (cntC b.cols[q].cells) (ab a) (ab b)).mostA,(ahM (cntC a.cols[k].cells) (cntC b.cols[q].cells) (ab a) (ab b)).mostB,(ahM (cntC a.cols[k].cells) (cntC b.cols[q].cells) (ab a) (ab b)).lostA,(ahM (cntC a.cols[k].cells) (cntC b.cols[q].cells) (ab a) (ab b)).lostB]:=by
     simp[oR,hk,hq]
    have hbd:=ut (cntC a.cols[k].cells) (cntC b.cols[q].cells) (ab a) (ab b) (fun p hp=>by have:=mA.1 p hp;omega) (fun p hp=>by have:=mB.1 p hp;omega);have hperm:=@DJ (cntC a.cols[k].cells) (cntC b.cols[q].cells) (ab a) (ab b);have hsnoc:=DK (cntC a.cols[k].cells) (cntC b.cols[q].cells) (ab a) (ab b);have hval:∀p∈cntC a.cols[k].cells,0≤p.2∧p.2≤1000000:=fun p hp=>by have:=mA.1 p hp;omega
    have hvalU:∀s,0≤a8 (cntC b.cols[q].cells) s∧a8 (cntC b.cols[q].cells) s≤1000000:=oL (by decide) (fun p hp=>by have:=mB.1 p hp;omega);rw[he,hL];have mA2:=mA.2;have mB2:=mB.2;clear mA mB hL he;generalize cntC a.cols[k].cells=TA at *;generalize cntC b.cols[q].cells=TB at *;generalize hcolA:a.cols[k]=ca at *;generalize hcolB:b.cols[q]=cb at *;(refine g ?_;intros);(refine gCA [] [(6,50)] [] (sp3) ?_;conv=>whnf);refine g ?_;(refine gCA [] [(6,56)] [] (sp4) ?_;conv=>whnf);refine gGo ?_;(refine gPC (sp5) ?_;conv=>whnf);refine gGo ?_;(refine gPC (sp6) ?_;conv=>whnf);refine gGo ?_;refine W.leG (mp:=[(4,4),(6,6),(8,8),(50,50),(56,56),(12,12),(74,74)]) (bo:=[]) (st':=⟨[(4,.bp 4 0),(6,.bp 6 0),(8,.bp 8 0),(10,.omap 50 0),(11,.omap 56 0),(12,.bp 12 0),(74,.bp 74 0)],[(4,[.rows 3 [a.row] none]),(6,[.rows 3 [b.row] none]),(8,[.rows 11 [eV relZ] none]),(50,[.map (sumE TA) TA.length (some [])]),(56,[.map (sumE TB) TB.length (some [])]),(12,[.rows 11 [[.int .i64 a.id,.int .i64 k,.int .i64 b.id,.int .i64 q,.int .i64 (ahL TA TB (ab a) (ab b) []).common,.int .i64 (ahL TA TB (ab a) (ab b) []).onlyA,.int .i64 0,.int .i64 (ahL TA TB (ab a) (ab b) []).mostA,.int .i64 (ahL TA TB (ab a) (ab b) []).mostB,.int .i64 (ahL TA TB (ab a) (ab b) []).lostA,.int .i64 (ahL TA TB (ab a) (ab b) []).lostB]] none]),(74,[.iter 50 0 TA.length []])],[4,6,8,50,56,12,74]⟩)
     (LeG.mq (.ci 4 (.ci 6 (.ci 8 (.ci 50 (.ci 56 (.ci 12 (.ci 74 .nil)))))))) ?_
    have hAl:=rr TA;have hBl:=rr TB;refine W.loopG (fun n st=>∃seen:List Nat,Seen TA.length seen∧n=TA.length-seen.length∧st=⟨[(4,.bp 4 0),(6,.bp 6 0),(8,.bp 8 0),(10,.omap 50 0),(11,.omap 56 0),(12,.bp 12 0),(74,.bp 74 0)],[(4,[.rows 3 [a.row] none]),(6,[.rows 3 [b.row] none]),(8,[.rows 11 [eV relZ] none]),(50,[.map (sumE TA) TA.length (some [])]),(56,[.map (sumE TB) TB.length (some [])]),(12,[.rows 11 [[.int .i64 a.id,.int .i64 k,.int .i64 b.id,.int .i64 q,.int .i64 (ahL TA TB (ab a) (ab b) seen).common,.int .i64 (ahL TA TB (ab a) (ab b) seen).onlyA,.int .i64 0,.int .i64 (ahL TA TB (ab a) (ab b) seen).mostA,.int .i64 (ahL TA TB (ab a) (ab b) seen).mostB,.int .i64 (ahL TA TB (ab a) (ab b) seen).lostA,.int .i64 (ahL TA TB (ab a) (ab b) seen).lostB]] none]),(74,[.iter 50 0 TA.length seen])],[4,6,8,50,56,12,74]⟩)
     TA.length _ ⟨[],Seen.nil _,by simp,rfl⟩ gX ?_
    rintro n st ⟨seen,hs,rfl,rfl⟩;refine gA ?_;have hbs:=hbd seen;have hsl:=hs.len;refine W.nextMap env hN rfl rfl rfl (by kernel_rfl) rfl rfl rfl (fun hD=>?_) (fun j0 j kk v hj hb=>?_)
    ·have hall:∀i,i<TA.length→i∈seen:=fun i hi=>hD i i _ _ (vI hi);have hp:=hperm (hs.perm hall);rw[hp] at hbs ⊢;generalize ahM TA TB (ab a) (ab b)=x at *;obtain⟨c1,c2,c3,c4,c5,c6,c7⟩:=hbs;(conv=>whnf);refine gGo ?_;(refine gM ?_;conv=>whnf);rw[hBl];exact retH rfl (.norm _) rfl rfl rfl trivial
    ·obtain⟨hjl,rfl,rfl,rfl⟩:=Do hj;have hsn:=hsnoc seen j;have hs':=hs.snoc hjl hb;have hlen:=hs'.len;simp only[List.length_append,List.length_cons,List.length_nil] at hlen;have hget:TA.getD j ([],0)=TA[j]:=by simp[hjl]
     have hvb:=hval _ (List.getElem_mem hjl);have hub:=hvalU TA[j].1;have hat:=vI hjl;have hbs':=hbd (seen++[j]);obtain⟨r0,hr1,hr2⟩:=gr TB TA[j].1;rw[hsn] at hbs';unfold ahS valI at hsn hbs';rw[hget] at hsn hbs';generalize ahL TA TB (ab a) (ab b) seen=x at *;obtain⟨c1,c2,c3,c4,c5,c6,c7⟩:=hbs;(conv=>whnf);refine gGo ?_;refine⟨seen,j,j,.str _,.int .i64 _,rfl,hat,rfl,?_⟩;(conv=>whnf);refine gGo ?_;refine bl (by kernel_rfl) ?_;(conv=>whnf);refine⟨r0,hr1,?_⟩;rw[hr2];(conv=>whnf);refine gT (fun hb=>?_) fun hb=>?_
     ·rw[if_pos hb] at hsn hbs';refine gGo ?_;refine⟨_,_,?_,⟨seen++[j],hs',rfl,rfl⟩,[(4,4),(6,6),(8,8),(50,50),(56,56),(12,12),(74,74)],[],[],LeG.mq (.ci 4 (.ci 6 (.ci 8 (.ci 50 (.ci 56 (.cons 12 rfl rfl (.refl _) (by rw[hsn];rfl) (.ci 74 .nil)))))))⟩;simp;omega
     ·rw[if_neg hb] at hsn hbs';refine gGo ?_;refine⟨_,_,?_,⟨seen++[j],hs',rfl,rfl⟩,[(4,4),(6,6),(8,8),(50,50),(56,56),(12,12),(74,74)],[],[],LeG.mq (.ci 4 (.ci 6 (.ci 8 (.ci 50 (.ci 56 (.cons 12 rfl rfl (.refl _) (by rw[hsn];rfl) (.ci 74 .nil)))))))⟩;simp;omega
   ·have he:fQ a i b j=(relZ,2):=by unfold fQ;rw[if_neg (by simp[ha,hb]),if_pos hr]
    rw[he];by_cases h1:i<0
    ·refine gGo ?_;(refine gM ?_;conv=>whnf);exact retH rfl (.norm _) rfl rfl rfl trivial
    by_cases h2:i<a.cols.length
    ·by_cases h3:j<0
     ·refine gGo ?_;intros;(refine gM ?_;conv=>whnf);exact retH rfl (.norm _) rfl rfl rfl trivial
     ·refine gGo ?_;intros;(refine gM ?_;conv=>whnf);exact retH rfl (.norm _) rfl rfl rfl trivial
    ·refine gGo ?_;intros;(refine gM ?_;conv=>whnf);exact retH rfl (.norm _) rfl rfl rfl trivial
end Go.Sx.Sp
