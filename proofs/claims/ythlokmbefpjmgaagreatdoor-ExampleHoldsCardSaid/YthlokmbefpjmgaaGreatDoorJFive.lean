/- Small words and small fractions; relations of columns, as the document tells them. -/
import Derived.Test.YthlokmbefpjmgaaGreatDoorJFour
import Derived.Test.YthlokmbefpjmgaaGreatDoorSxFive
import Derived.Test.YthlokmbefpjmgaaGreatDoorSxFour
set_option linter.unusedVariables false
set_option linter.unusedSimpArgs false
namespace Go.Sx.Sp
open Go Go.Sx Go.Proofs
attribute [local irreducible] GoodW famL
def wRows (l:List Nat):List (List V):=l.map fun (n:Nat)=>[.int .u32 (n:Int)]
theorem wRows_len (l:List Nat):(wRows l).length=l.length:=by simp [wRows]
theorem wRows_get {l:List Nat}{i:Nat}(h:i<l.length):(wRows l)[i]?=some [.int .u32 (l[i]:Int)]:=by simp [wRows,h]
theorem wRows_take (l:List Nat) (k:Nat):wRows (l.take k)=(wRows l).take k:=by simp [wRows,List.map_take]
theorem wRows_sz (l:List Nat):rowsSz (wRows l) 1:=by
 unfold rowsSz wRows;intro r hr;obtain ⟨c,_,rfl⟩:=List.mem_map.1 hr;rfl
def trimK (l:List Nat):Nat→Nat
 | 0=>0
 | k+1=>if l.getD k 1=0 then trimK l k else k+1
def trimL (l:List Nat):List Nat:=l.take (trimK l l.length)
def wd (n:Nat):List Nat:=if n=0 then [] else [n]
set_option maxHeartbeats 4000000 in
theorem trim_spec (l:List Nat):Spec Tryz.prog 218 [.sl (wRows l) false] [] (.sl (wRows (trimL l)) false) []:=by
 have hrl:=wRows_len l;refine gEn env Tryz.func218 fun Γ hN hK hML=>?_;refine gGo ?_;refine W.loopG (fun n st=>∃ k:Nat,k≤l.length∧trimK l l.length=trimK l k∧n=k∧st=⟨[(0,.sl (wRows (l.take k)) false)],[],[]⟩)
  l.length _ ⟨l.length,Nat.le_refl _,rfl,rfl,rfl⟩ ⟨[],[],[],LeG.mk' rfl rfl rfl ⟨⟨_,.refl _,(by rw [List.take_length];rfl)⟩,trivial⟩ .nil rfl rfl (by rw [hK];rfl)⟩ ?_
 rintro n st ⟨k,hk,ht,rfl,rfl⟩;have hkl:=wRows_len (l.take n);rw [List.length_take,Nat.min_eq_left hk] at hkl;refine gT (fun hb=>?_) fun hb=>?_
 ·cases n with
  | zero=>omega
  | succ q =>
   have hq:q<l.length:=by omega
   have hx:(wRows (l.take (q+1)))[q]?=some [.int .u32 (l[q]:Int)]:=by
    rw [wRows_get (by rw [List.length_take];omega)];simp
   have hsub:((wRows (l.take (q+1))).length:Int)-1=(q:Int):=by omega
   have hg:l.getD q 1=l[q]:=by simp [hq]
   refine gGo ?_;intros;refine rowAt_of (r:=[.int .u32 (l[q]:Int)]) (by rw [hsub,Int.toNat_natCast];exact hx) ?_;(conv=>whnf);refine gT (fun hb=>?_) fun hb=>?_
   ·have ht2:trimK l l.length=trimK l q:=by
     rw [ht];simp only [trimK,hg];rw [if_pos (by omega)]
    refine gGo ?_;intros;refine ⟨wRows_sz _,?_⟩;(conv=>whnf);refine gGo ?_;refine ⟨_,_,?_,⟨q,by omega,ht2,rfl,rfl⟩,[],[],[],LeG.mk' rfl rfl rfl ⟨⟨_,.refl _,?_⟩,trivial⟩ .nil rfl rfl (by rw [hK];rfl)⟩
    ·omega
    ·show V.sl ((List.take (((wRows (l.take (q+1))).length:Int)-1).toNat (wRows (l.take (q+1)))).drop 0) false=V.sl (wRows (l.take q)) false;rw [List.drop_zero,hsub,Int.toNat_natCast,←wRows_take,List.take_take,Nat.min_eq_left (by omega)]
   ·have he:trimL l=l.take (q+1):=by
     unfold trimL;rw [ht];simp only [trimK,hg];rw [if_neg (by omega)]
    rw [he];exact gR
 ·have hn0:n=0:=by omega
  subst hn0;have he:trimL l=l.take 0:=by unfold trimL;rw [ht];rfl
  rw [he];exact gR
theorem u32w {n:Int}(h:0≤n∧n≤4294967295):IntKind.u32.wrap n=n:=IntWalk.u32_in n h
theorem u64w {n:Int}(h:0≤n∧n≤18446744073709551615):IntKind.u64.wrap n=n:=IntWalk.u64_in n h
theorem wd_zero:wd 0=[]:=rfl
theorem wd_pos {n:Nat}(h:n≠0):wd n=[n]:=by unfold wd;rw [if_neg h]
theorem trim_one (n:Nat):trimL [n]=wd n:=by
 unfold trimL wd;by_cases h:n=0
 ·subst h;rfl
 ·simp [trimK,h]
theorem trim_two (n:Nat):trimL [n,0]=wd n:=by
 unfold trimL wd;by_cases h:n=0
 ·subst h;rfl
 ·simp [trimK,h]
theorem trim_wd (n:Nat):trimL (wd n)=wd n:=by
 by_cases h:n=0
 ·subst h;rfl
 ·rw [wd_pos h,trim_one,wd_pos h]
def bigV (neg:Bool) (l:List Nat):List V:=[.bool neg,.sl (wRows l) false]
set_option maxHeartbeats 4000000 in
theorem big_spec (neg:Bool) (l:List Nat):Spec Tryz.prog 199 [.bool neg,.sl (wRows l) false] [] (.agg (bigV (neg&&decide (0<(trimL l).length)) (trimL l))) []:=by
 have sp:=trim_spec l;have hl:=wRows_len (trimL l);generalize trimL l=t at *;refine gEn env Tryz.func199 fun Γ hN hK hML=>?_;cases neg with
 | false =>
  refine g ?_;(refine gM ?_;conv=>whnf);exact retH rfl (.norm _) rfl rfl rfl trivial
 | true =>
  refine gT (fun hb=>?_) fun hb=>?_
  ·have e:(true&&decide (0<t.length))=true:=by rw [decide_eq_true (show 0<t.length by omega)];rfl
   rw [e];refine gGo ?_;intros;(refine gM ?_;conv=>whnf);exact retH rfl (.norm _) rfl rfl rfl trivial
  ·have e:(true&&decide (0<t.length))=false:=by rw [decide_eq_false (show ¬ 0<t.length by omega)];rfl
   rw [e];refine gGo ?_;intros;(refine gM ?_;conv=>whnf);exact retH rfl (.norm _) rfl rfl rfl trivial
def cmpN (x y:Nat):Int:=if x<y then -1 else if y<x then 1 else 0
set_option maxHeartbeats 4000000 in
theorem cmp_spec (x y:Nat):Spec Tryz.prog 197 [.sl (wRows (wd x)) false,.sl (wRows (wd y)) false] [] (.int .i64 (cmpN x y)) []:=by
 refine gEn env Tryz.func197 fun Γ hN hK hML=>?_;by_cases hx:x=0
 ·by_cases hy:y=0
  ·subst hx;subst hy;rw [wd_zero,show cmpN 0 0=0 from rfl];refine gGo ?_;intros;refine W.loopG (fun n st=>n=0∧st=⟨[(5,.int .i64 (-1))],[],[]⟩) 0 _ ⟨rfl,rfl⟩ gX ?_;rintro n st ⟨rfl,rfl⟩;exact gR
  ·subst hx;have e:cmpN 0 y=-1:=by unfold cmpN;rw [if_pos (by omega)]
   rw [wd_zero,wd_pos hy,e];refine gGo ?_;intros;refine gK (by show (0:Int)≠1;decide) ?_;(conv=>whnf);refine gGo ?_;intros;refine gK (by show (0:Int)<1;decide) ?_;(conv=>whnf);exact gR
 ·by_cases hy:y=0
  ·subst hy;have e:cmpN x 0=1:=by unfold cmpN;rw [if_neg (by omega),if_pos (by omega)]
   rw [wd_zero,wd_pos hx,e];refine gGo ?_;intros;refine gK (by show (1:Int)≠0;decide) ?_;(conv=>whnf);refine gGo ?_;intros;refine gL (by show ¬ (1:Int)<0;decide) ?_;(conv=>whnf);exact gR
  ·rw [wd_pos hx,wd_pos hy];refine gGo ?_;intros;refine gL (fun h=>h rfl) ?_;(conv=>whnf);refine gGo ?_;intros;refine W.loopG (fun n st=>(n=1∧st=⟨[(0,.sl (wRows [x]) false),(1,.sl (wRows [y]) false),(5,.int .i64 0)],[],[]⟩)∨(n=0∧x=y∧st=⟨[(0,.sl (wRows [x]) false),(1,.sl (wRows [y]) false),(5,.int .i64 (-1))],[],[]⟩)) 1 _ (.inl ⟨rfl,rfl⟩) gX ?_;rintro n st (⟨rfl,rfl⟩ | ⟨rfl,hxy,rfl⟩)
   ·refine gT (fun hb=>?_) fun hb=>?_
    ·have e:cmpN x y=-1:=by unfold cmpN;rw [if_pos (by omega)]
     rw [e];exact gR
    ·refine gT (fun hb=>?_) fun hb=>?_
     ·have e:cmpN x y=1:=by unfold cmpN;rw [if_neg (by omega),if_pos (by omega)]
      rw [e];exact gR
     ·refine gGo ?_;exact ⟨_,_,by omega,.inr ⟨rfl,by omega,rfl⟩,gX⟩
   ·have e:cmpN x y=0:=by unfold cmpN;rw [if_neg (by omega),if_neg (by omega)]
    rw [e];exact gR
theorem ofInt_nat (n:Nat):BitVec.ofInt 32 (n:Int)=BitVec.ofNat 32 n:=BitVec.ofInt_natCast 32 n
theorem and_one (n:Nat) (h:n<4294967296):IntKind.u32.wrap ((BitVec.ofInt IntKind.u32.bits (n:Int) &&& BitVec.ofInt IntKind.u32.bits 1).toNat:Nat)=((n % 2:Nat):Int):=by
 have e:(BitVec.ofInt 32 (n:Int) &&& BitVec.ofInt 32 1).toNat=n % 2:=by
  rw [ofInt_nat,show (1:Int)=((1:Nat):Int) from rfl,ofInt_nat,BitVec.toNat_and,BitVec.toNat_ofNat,BitVec.toNat_ofNat,Nat.mod_eq_of_lt (show n<2 ^ 32 from h)];exact Nat.and_one_is_mod n
 show IntKind.u32.wrap ((BitVec.ofInt 32 (n:Int) &&& BitVec.ofInt 32 1).toNat:Nat)=_;rw [e,u32w (by omega)]
theorem or_disj (a b:Nat) (ha:a<4294967296) (hb:b<4294967296) (h:a ||| b=a+b) (hs:a+b<4294967296):IntKind.u32.wrap ((BitVec.ofInt IntKind.u32.bits (a:Int) ||| BitVec.ofInt IntKind.u32.bits (b:Int)).toNat:Nat)=((a+b:Nat):Int):=by
 have e:(BitVec.ofInt 32 (a:Int) ||| BitVec.ofInt 32 (b:Int)).toNat=a+b:=by
  rw [ofInt_nat,ofInt_nat,BitVec.toNat_or,BitVec.toNat_ofNat,BitVec.toNat_ofNat,Nat.mod_eq_of_lt (show a<2 ^ 32 from ha),Nat.mod_eq_of_lt (show b<2 ^ 32 from hb),h]
 show IntKind.u32.wrap ((BitVec.ofInt 32 (a:Int) ||| BitVec.ofInt 32 (b:Int)).toNat:Nat)=_;rw [e,u32w (by omega)]
theorem or_low (a d:Nat) (i:Nat) (h:d<2 ^ i):2 ^ i*a ||| d=2 ^ i*a+d:=(Nat.two_pow_add_eq_or_of_lt h a).symm
theorem fdiv_nat (x k:Nat):((x:Int).fdiv ((2:Int) ^ k))=((x / 2 ^ k:Nat):Int):=by
 rw [Int.fdiv_eq_ediv_of_nonneg _ (Int.le_of_lt (Int.pow_pos (by decide)))];rw [show ((2:Int) ^ k)=((2 ^ k:Nat):Int) by simp];rw [Int.natCast_ediv]
set_option maxHeartbeats 4000000 in
theorem bit_spec (x i:Nat) (hx:x<4294967296) (hi:i<32):Spec Tryz.prog 231 [.sl (wRows [x]) false,.int .i64 i] [] (.int .u32 ((x / 2 ^ i % 2:Nat):Int)) []:=by
 have h1:(i:Int).tdiv 32=0:=by rw [Int.tdiv_eq_ediv_of_nonneg (by omega)];omega
 have h2:(i:Int).tmod 32=i:=by rw [Int.tmod_eq_emod_of_nonneg (by omega)];omega
 have h3:IntKind.u64.wrap (i:Int)=i:=u64w (by omega);have h4:x / 2 ^ i≤x:=Nat.div_le_self _ _;have h5:=and_one (x / 2 ^ i) (by omega);have e:IntKind.u32.wrap ((BitVec.ofInt IntKind.u32.bits ((x:Int).fdiv (2 ^ min (IntKind.u64.wrap ((i:Int).tmod 32)).toNat IntKind.u32.bits)) &&& BitVec.ofInt IntKind.u32.bits 1).toNat:Nat)=((x / 2 ^ i % 2:Nat):Int):=by
  rw [h2,h3,Int.toNat_natCast,show min i IntKind.u32.bits=i from Nat.min_eq_left (show i≤32 by omega),fdiv_nat];exact h5
 refine gEn env Tryz.func231 fun Γ hN hK hML=>?_;refine gGo ?_;refine rowAt_of (r:=[.int .u32 (x:Int)]) (by rw [h1];rfl) ?_;(conv=>whnf);refine gGo ?_;refine And.intro (by rw [h2,h3];omega) ?_;(conv=>whnf);refine gGo ?_;rw [e];exact gR
set_option maxHeartbeats 4000000 in
theorem trim_own (x:Nat) (hx:x≠0):Spec Tryz.prog 218 [.osl 0 0 0 2 2] [(0,.rows 1 (wRows [x,0]) (some []))] (.osl 0 0 0 1 2) [(0,.rows 1 (wRows [x,0]) (some []))]:=by
 refine gEn env Tryz.func218 fun Γ hN hK hML=>?_;refine gGo ?_;refine W.loopG (fun n st=>(n=1∧st=⟨[(0,.osl 0 0 0 2 2)],[(0,[.rows 1 (wRows [x,0]) (some [])])],[0]⟩)∨(n=0∧st=⟨[(0,.osl 0 0 0 1 2)],[(0,[.rows 1 (wRows [x,0]) (some [])])],[0]⟩)) 1 _ (.inl ⟨rfl,rfl⟩) gX ?_;rintro n st (⟨rfl,rfl⟩ | ⟨rfl,rfl⟩)
 ·refine gGo ?_;intros;exact ⟨_,_,by omega,.inr ⟨rfl,rfl⟩,gX⟩
 ·refine gGo ?_;intros;(refine gM ?_;conv=>whnf);exact retH rfl (.refl _) rfl rfl rfl ⟨rfl,rfl,trivial⟩
set_option maxHeartbeats 4000000 in
theorem twice_spec (r d:Nat) (hr:r<1073741824) (hd:d<2):Spec Tryz.prog 217 [.sl (wRows (wd r)) false,.int .u32 d] [] (.sl (wRows (wd (2*r+d))) false) []:=by
 by_cases h0:r=0
 ·subst h0;have sp:=trim_spec [d];rw [trim_one] at sp;rw [wd_zero,show 2*0+d=d by omega];refine gEn env Tryz.func217 fun Γ hN hK hML=>?_;refine gGo ?_;refine W.loopG (fun n st=>n=0∧st=⟨[(0,.sl (wRows []) false),(1,.int .u32 d),(5,.nils),(6,.int .i64 0)],[],[]⟩) 0 _ ⟨rfl,rfl⟩ gX ?_;rintro n st ⟨rfl,rfl⟩;refine gGo ?_;intros;refine gL (by show ¬ (0:Int)<0;decide) ?_;(conv=>whnf);refine gGo ?_;refine ⟨rowsSz_cons rfl rowsSz_nil,fitsN (n:=1) (b:=4) (by omega) (by omega),Or.inr ⟨⟨rfl,rfl,rfl,rfl⟩,?_⟩⟩;(conv=>whnf);exact gR
 ·have e1:2*r+d≠0:=by omega
  have sp:=trim_own (2*r+d) e1;rw [wd_pos h0,wd_pos e1];have e31:(r:Int).fdiv (2 ^ 31)=0:=by
   rw [fdiv_nat,Nat.div_eq_of_lt (by omega)];rfl
  have etw:IntKind.u32.wrap ((BitVec.ofInt IntKind.u32.bits (IntKind.u32.wrap ((r:Int)*2 ^ 1)) ||| BitVec.ofInt IntKind.u32.bits (d:Int)).toNat:Nat)=((2*r+d:Nat):Int):=by
   have g:=or_low r d 1 (by omega);rw [show (2:Nat) ^ 1=2 from rfl] at g;rw [u32w (n:=(r:Int)*2 ^ 1) (by omega),show (r:Int)*2 ^ 1=((2*r:Nat):Int) by omega];exact or_disj (2*r) d (by omega) (by omega) g (by omega)
  refine gEn env Tryz.func217 fun Γ hN hK hML=>?_;refine gGo ?_;refine W.ownNil 5 90 1 rfl rfl ?_;refine W.loopG (fun n st=>(n=1∧st=⟨[(0,.sl (wRows [r]) false),(1,.int .u32 d),(5,.osl 90 0 0 0 0),(6,.int .i64 0)],[(90,[.rows 1 [] (some [])])],[90]⟩)∨(n=0∧st=⟨[(0,.sl (wRows [r]) false),(1,.int .u32 0),(5,.osl 90 0 0 1 1),(6,.int .i64 1)],[(90,[.rows 1 (wRows [2*r+d]) (some [])])],[90]⟩)) 1 _ (.inl ⟨rfl,rfl⟩) gX ?_;rintro n st (⟨rfl,rfl⟩ | ⟨rfl,rfl⟩)
  ·refine gGo ?_;intros;refine gK (by show (0:Int)<1;decide) ?_;(conv=>whnf);refine gGo ?_;refine ⟨⟨rowsSz_cons rfl rowsSz_nil,rfl⟩,fitsN (n:=0+1) (b:=4) (by omega) (by omega),.inl ⟨rfl,rfl,?_⟩⟩;(conv=>whnf);refine gGo ?_;refine ⟨_,_,?_,.inr ⟨rfl,rfl⟩,[(90,90)],[],[],LeG.mk' rfl rfl rfl ⟨⟨_,.refl _,rfl⟩,⟨_,.refl _,?_⟩,⟨_,.refl _,rfl⟩,⟨_,.refl _,rfl⟩,trivial⟩ (.cons 90 rfl rfl (.refl _) ?_ .nil) rfl rfl (by rw [hK];rfl)⟩
   ·omega
   ·exact congrArg (V.int .u32) e31
   ·exact congrArg (fun z=>[Blk.rows 1 [[V.int .u32 z]] (some [])]) etw.symm
  ·refine gGo ?_;intros;refine gL (by show ¬ (1:Int)<1;decide) ?_;(conv=>whnf);refine gGo ?_;refine ⟨⟨rowsSz_cons rfl rowsSz_nil,rfl⟩,fitsN (n:=1+1) (b:=4) (by omega) (by omega),.inl ⟨rfl,rfl,?_⟩⟩;(conv=>whnf);refine gGo ?_;(refine gCA [(0,90)] [] [] (sp) ?_;conv=>whnf);refine gGo ?_;refine W.leG (mp:=[]) (bo:=[90]) (st':=⟨[(4,.sl (wRows [2*r+d]) false)],[],[]⟩)
    (LeG.mk' rfl rfl rfl ⟨⟨_,Lent.oslF 90 0 0 1 2 1 (wRows [2*r+d,0]) (some []) rfl rfl rfl (.inl rfl),rfl⟩,trivial⟩ .nil rfl rfl (by rw [hK];rfl)) ?_
   (refine gM ?_;conv=>whnf);exact ret0 rfl rfl rfl
set_option maxHeartbeats 4000000 in
theorem half_spec (r:Nat) (hr:r<4294967296):Spec Tryz.prog 216 [.sl (wRows [r]) false] [] (.sl (wRows (wd (r / 2))) false) []:=by
 have sp:=trim_spec [r / 2];rw [trim_one] at sp;have ec:(r:Int).fdiv (2 ^ 1)=((r / 2:Nat):Int):=fdiv_nat r 1;refine gEn env Tryz.func216 fun Γ hN hK hML=>?_;refine gGl ?_;refine Or.inl ?_;(conv=>whnf);refine gGo ?_;refine ⟨⟨wRows_sz _,rfl⟩,fitsN (n:=0+1) (b:=4) (by omega) (by omega),.inl ⟨rfl,rfl,?_⟩⟩;(conv=>whnf);refine gGo ?_;intros;refine W.loopG (fun n st=>(n=1∧st=⟨[(0,.sl (wRows [r]) false),(3,.osl 5 0 0 1 1),(9,.int .i64 1),(10,.int .i64 0)],[(5,[.rows 1 (wRows [r]) (some [])])],[5]⟩)∨(n=0∧st=⟨[(0,.sl (wRows [r]) false),(3,.osl 5 0 0 1 1),(9,.int .i64 1),(10,.int .i64 1)],[(5,[.rows 1 (wRows [r / 2]) (some [])])],[5]⟩)) 1 _ (.inl ⟨rfl,rfl⟩) gX ?_;rintro n st (⟨rfl,rfl⟩ | ⟨rfl,rfl⟩)
 ·refine gGo ?_;intros;refine gL (by show ¬ (0:Int)+1<1;decide) ?_;(conv=>whnf);refine gGo ?_;refine ⟨_,_,by omega,.inr ⟨rfl,rfl⟩,[(5,5)],[],[],LeG.mq (.cons 5 rfl rfl (.refl _) ?_ .nil)⟩;exact congrArg (fun z=>[Blk.rows 1 [[V.int .u32 z]] (some [])]) ec.symm
 ·refine gA ?_;(refine gE env hN (by kernel_rfl) ?_;conv=>whnf);refine gGs ?_;refine W.leG (mp:=[]) (bo:=[5]) (st':=⟨[(3,.sl (wRows [r / 2]) false),(11,.bool false)],[],[]⟩)
   (LeG.mk' rfl rfl rfl ⟨⟨_,Lent.whole rfl rfl rfl rfl (.inl rfl),rfl⟩,⟨_,.refl _,rfl⟩,trivial⟩ .nil rfl rfl (by rw [hK];rfl)) ?_
  exact gR
set_option maxHeartbeats 4000000 in
theorem sub_spec (x y:Nat) (hx:x<4294967296) (h0:x≠0) (hy:y≤x):Spec Tryz.prog 201 [.sl (wRows (wd x)) false,.sl (wRows (wd y)) false] [] (.sl (wRows (wd (x-y))) false) []:=by
 have sp:=trim_spec [x-y];rw [trim_one] at sp;have ec:IntKind.u32.wrap (0+(x:Int)-y)=((x-y:Nat):Int):=by rw [u32w (by omega)];omega
 have es:(0+(x:Int)-y).fdiv (2 ^ 32)=0:=by
  rw [show 0+(x:Int)-y=((x-y:Nat):Int) by omega,fdiv_nat,Nat.div_eq_of_lt (by omega)];rfl
 have ec0:IntKind.u32.wrap (0+(x:Int))=((x-0:Nat):Int):=by rw [u32w (by omega)];omega
 have es0:(0+(x:Int)).fdiv (2 ^ 32)=0:=by
  rw [show 0+(x:Int)=((x:Nat):Int) by omega,fdiv_nat,Nat.div_eq_of_lt (by omega)];rfl
 rw [wd_pos h0];refine gEn env Tryz.func201 fun Γ hN hK hML=>?_;refine gGo ?_;refine W.ownNil 5 90 1 rfl rfl ?_;refine W.loopG (fun n st=>(n=1∧st=⟨[(0,.sl (wRows [x]) false),(1,.sl (wRows (wd y)) false),(5,.osl 90 0 0 0 0),(6,.int .i64 0),(7,.int .i64 0)],[(90,[.rows 1 [] (some [])])],[90]⟩)∨(n=0∧st=⟨[(0,.sl (wRows [x]) false),(1,.sl (wRows (wd y)) false),(5,.osl 90 0 0 1 1),(6,.int .i64 0),(7,.int .i64 1)],[(90,[.rows 1 (wRows [x-y]) (some [])])],[90]⟩)) 1 _ (.inl ⟨rfl,rfl⟩) gX ?_;rintro n st (⟨rfl,rfl⟩ | ⟨rfl,rfl⟩)
 ·refine gGo ?_;intros;refine gK (by show (0:Int)<1;decide) ?_;(conv=>whnf);refine gGo ?_;intros;by_cases hy0:y=0
  ·subst hy0;rw [wd_zero];refine gL (by show ¬ (0:Int)<0;decide) ?_;(conv=>whnf);refine gGo ?_;refine ⟨⟨rowsSz_cons rfl rowsSz_nil,rfl⟩,fitsN (n:=0+1) (b:=4) (by omega) (by omega),.inl ⟨rfl,rfl,?_⟩⟩;(conv=>whnf);refine gGo ?_;intros;refine ⟨_,_,by omega,.inr ⟨rfl,rfl⟩,[(90,90)],[],[],LeG.mk' rfl rfl rfl ⟨⟨_,.refl _,rfl⟩,⟨_,.refl _,rfl⟩,⟨_,.refl _,rfl⟩,⟨_,.refl _,?_⟩,⟨_,.refl _,rfl⟩,trivial⟩ (.cons 90 rfl rfl (.refl _) ?_ .nil) rfl rfl (by rw [hK];rfl)⟩
   ·exact congrArg (V.int .i64) es0
   ·exact congrArg (fun z=>[Blk.rows 1 [[V.int .u32 z]] (some [])]) ec0.symm
  ·rw [wd_pos hy0];refine gK (by show (0:Int)<1;decide) ?_;(conv=>whnf);refine gGo ?_;refine ⟨⟨rowsSz_cons rfl rowsSz_nil,rfl⟩,fitsN (n:=0+1) (b:=4) (by omega) (by omega),.inl ⟨rfl,rfl,?_⟩⟩;(conv=>whnf);refine gGo ?_;refine ⟨_,_,by omega,.inr ⟨rfl,rfl⟩,[(90,90)],[],[],LeG.mk' rfl rfl rfl ⟨⟨_,.refl _,rfl⟩,⟨_,.refl _,rfl⟩,⟨_,.refl _,rfl⟩,⟨_,.refl _,?_⟩,⟨_,.refl _,rfl⟩,trivial⟩ (.cons 90 rfl rfl (.refl _) ?_ .nil) rfl rfl (by rw [hK];rfl)⟩
   ·exact congrArg (V.int .i64) es
   ·exact congrArg (fun z=>[Blk.rows 1 [[V.int .u32 z]] (some [])]) ec.symm
 ·refine gGo ?_;intros;refine gL (by show ¬ (1:Int)<1;decide) ?_;(conv=>whnf);refine W.leG (mp:=[]) (bo:=[90]) (st':=⟨[(5,.sl (wRows [x-y]) false),(11,.bool false)],[],[]⟩)
   (LeG.mk' rfl rfl rfl ⟨⟨_,Lent.whole rfl rfl rfl rfl (.inl rfl),rfl⟩,⟨_,.refl _,rfl⟩,trivial⟩ .nil rfl rfl (by rw [hK];rfl)) ?_
  exact gR
set_option maxHeartbeats 4000000 in
theorem add_spec (x:Nat) (hx:x<4294967296):Spec Tryz.prog 200 [.sl (wRows (wd x)) false,.sl (wRows []) false] [] (.sl (wRows (if x=0 then [0] else [x,0])) false) []:=by
 by_cases h0:x=0
 ·subst h0;rw [wd_zero,if_pos rfl];refine gEn env Tryz.func200 fun Γ hN hK hML=>?_;refine gGo ?_;refine W.loopG (fun n st=>n=0∧st=⟨[(0,.sl (wRows []) false),(1,.sl (wRows []) false),(5,.nils),(6,.int .u64 0),(7,.int .i64 0)],[],[]⟩) 0 _ ⟨rfl,rfl⟩ gX ?_;rintro n st ⟨rfl,rfl⟩;refine gA ?_;refine gA ?_;(refine gE env hN (by kernel_rfl) ?_;conv=>whnf);refine gGs ?_;intros;refine gL (by show ¬ (0:Int)<0;decide) ?_;(conv=>whnf);refine gGo ?_;intros;refine gL (by show ¬ (0:Int)<0;decide) ?_;(conv=>whnf);refine gGo ?_;refine ⟨rowsSz_cons rfl rowsSz_nil,fitsN (n:=1) (b:=4) (by omega) (by omega),Or.inr ⟨⟨rfl,rfl,rfl,rfl⟩,?_⟩⟩;(conv=>whnf);exact gR
 ·have ec:IntKind.u32.wrap (IntKind.u64.wrap (0+IntKind.u64.wrap (x:Int)))=x:=by rw [u64w (n:=(x:Int)) (by omega),u64w (by omega),u32w (by omega)];omega
  have es:(IntKind.u64.wrap (0+IntKind.u64.wrap (x:Int))).fdiv (2 ^ 32)=0:=by
   rw [u64w (n:=(x:Int)) (by omega),u64w (by omega),show (0:Int)+x=(x:Nat) by omega,fdiv_nat,Nat.div_eq_of_lt (by omega)];rfl
  rw [wd_pos h0,if_neg h0];refine gEn env Tryz.func200 fun Γ hN hK hML=>?_;refine gGo ?_;refine W.ownNil 5 90 1 rfl rfl ?_;refine W.loopG (fun n st=>(n=1∧st=⟨[(0,.sl (wRows [x]) false),(1,.sl (wRows []) false),(5,.osl 90 0 0 0 0),(6,.int .u64 0),(7,.int .i64 0)],[(90,[.rows 1 [] (some [])])],[90]⟩)∨(n=0∧st=⟨[(0,.sl (wRows [x]) false),(1,.sl (wRows []) false),(5,.osl 90 0 0 1 1),(6,.int .u64 0),(7,.int .i64 1)],[(90,[.rows 1 (wRows [x]) (some [])])],[90]⟩)) 1 _ (.inl ⟨rfl,rfl⟩) gX ?_;rintro n st (⟨rfl,rfl⟩ | ⟨rfl,rfl⟩)
  ·refine gGo ?_;intros;refine gK (by show (0:Int)<1;decide) ?_;(conv=>whnf);refine gGo ?_;intros;refine gK (by show (0:Int)<1;decide) ?_;(conv=>whnf);refine gGo ?_;intros;refine gL (by show ¬ (0:Int)<0;decide) ?_;(conv=>whnf);refine gGo ?_;refine ⟨⟨rowsSz_cons rfl rowsSz_nil,rfl⟩,fitsN (n:=0+1) (b:=4) (by omega) (by omega),.inl ⟨rfl,rfl,?_⟩⟩;(conv=>whnf);refine gGo ?_;refine ⟨_,_,by omega,.inr ⟨rfl,rfl⟩,[(90,90)],[],[],LeG.mk' rfl rfl rfl ⟨⟨_,.refl _,rfl⟩,⟨_,.refl _,rfl⟩,⟨_,.refl _,rfl⟩,⟨_,.refl _,?_⟩,⟨_,.refl _,rfl⟩,trivial⟩ (.cons 90 rfl rfl (.refl _) ?_ .nil) rfl rfl (by rw [hK];rfl)⟩
   ·exact congrArg (V.int .u64) es
   ·exact congrArg (fun z=>[Blk.rows 1 [[V.int .u32 z]] (some [])]) ec.symm
  ·refine gGo ?_;intros;refine gL (by show ¬ (1:Int)<1;decide) ?_;(conv=>whnf);refine gGo ?_;intros;refine gL (by show ¬ (1:Int)<0;decide) ?_;(conv=>whnf);refine gGo ?_;refine ⟨⟨rowsSz_cons rfl rowsSz_nil,rfl⟩,fitsN (n:=1+1) (b:=4) (by omega) (by omega),.inl ⟨rfl,rfl,?_⟩⟩;(conv=>whnf);refine gGo ?_;refine W.leG (mp:=[]) (bo:=[90]) (st':=⟨[(4,.sl (wRows [x,0]) false)],[],[]⟩)
    (LeG.mk' rfl rfl rfl ⟨⟨_,Lent.whole rfl rfl rfl rfl (.inl rfl),rfl⟩,trivial⟩ .nil rfl rfl (by rw [hK];rfl)) ?_
   (refine gM ?_;conv=>whnf);exact ret0 rfl rfl rfl
set_option maxHeartbeats 4000000 in
theorem mul_spec (x y:Nat) (hx:x<4294967296) (hy:y<4294967296) (hy0:y≠0) (hxy:x*y<4294967296):Spec Tryz.prog 202 [.sl (wRows (wd x)) false,.sl (wRows (wd y)) false] [] (.sl (wRows (wd (x*y))) false) []:=by
 by_cases h0:x=0
 ·subst h0;have sp:=trim_spec [0];rw [trim_one] at sp;rw [wd_zero,wd_pos hy0,Nat.zero_mul];have hl0:(wRows []).length=0:=rfl;have hly:(wRows [y]).length=1:=rfl;refine gEn env Tryz.func202 fun Γ hN hK hML=>?_;refine gGo ?_;intros;refine And.intro ⟨by omega,by omega,(by show (((wRows []).length:Int)+(wRows [y]).length)*4≤_;omega),by omega⟩ ?_;(conv=>whnf);refine gGo ?_;refine W.loopG (fun n st=>n=0∧st=⟨[(0,.sl (wRows []) false),(5,.osl 14 0 0 1 1),(6,.int .i64 0)],[(14,[.rows 1 (wRows [0]) (some [])])],[14]⟩) 0 _ ⟨rfl,rfl⟩ gX ?_;rintro n st ⟨rfl,rfl⟩;refine gA ?_;refine gA ?_;(refine gE env hN (by kernel_rfl) ?_;conv=>whnf);refine gGs ?_;intros;refine W.leG (mp:=[]) (bo:=[14]) (st':=⟨[(5,.sl (wRows [0]) false),(18,.bool false)],[],[]⟩)
   (LeG.mk' rfl rfl rfl ⟨⟨_,Lent.whole rfl rfl rfl rfl (.inl rfl),rfl⟩,⟨_,.refl _,rfl⟩,trivial⟩ .nil rfl rfl (by rw [hK];rfl)) ?_
  exact gR
 ·have sp:=trim_spec [x*y,0];rw [trim_two] at sp;rw [wd_pos h0,wd_pos hy0];have hxy0:(x:Int)*y=((x*y:Nat):Int):=by rw [Int.natCast_mul]
  have ec0:IntKind.u64.wrap (0+IntKind.u64.wrap (IntKind.u64.wrap (IntKind.u64.wrap (x:Int)*IntKind.u64.wrap (y:Int))+IntKind.u64.wrap 0))=((x*y:Nat):Int):=by
   rw [u64w (n:=(x:Int)) (by omega),u64w (n:=(y:Int)) (by omega),u64w (n:=(0:Int)) (by omega),hxy0,u64w (n:=((x*y:Nat):Int)) (by omega),u64w (n:=((x*y:Nat):Int)+0) (by omega),u64w (by omega)];omega
  have ec:=(congrArg IntKind.u32.wrap ec0).trans (u32w (by omega));have es:=(congrArg (fun z:Int=>z.fdiv (2 ^ 32)) ec0).trans (show ((x*y:Nat):Int).fdiv (2 ^ 32)=0 by rw [fdiv_nat,Nat.div_eq_of_lt (by omega)];rfl);clear hxy0;have hlx:(wRows [x]).length=1:=rfl;have hly:(wRows [y]).length=1:=rfl;refine gEn env Tryz.func202 fun Γ hN hK hML=>?_;refine gGo ?_;intros;refine And.intro ⟨by omega,by omega,(by show (((wRows [x]).length:Int)+(wRows [y]).length)*4≤_;omega),by omega⟩ ?_;(conv=>whnf);refine gGo ?_;refine W.loopG (fun n st=>(n=1∧st=⟨[(0,.sl (wRows [x]) false),(1,.sl (wRows [y]) false),(5,.osl 14 0 0 2 2),(6,.int .i64 0)],[(14,[.rows 1 (wRows [0,0]) (some [])])],[14]⟩)∨(n=0∧st=⟨[(0,.sl (wRows [x]) false),(1,.sl (wRows [y]) false),(5,.osl 14 0 0 2 2),(6,.int .i64 1)],[(14,[.rows 1 (wRows [x*y,0]) (some [])])],[14]⟩)) 1 _ (.inl ⟨rfl,rfl⟩) gX ?_;rintro n st (⟨rfl,rfl⟩ | ⟨rfl,rfl⟩)
  ·refine gGo ?_;intros;refine W.loopG (fun n st=>(n=1∧st=⟨[(0,.sl (wRows [x]) false),(1,.sl (wRows [y]) false),(5,.osl 14 0 0 2 2),(6,.int .i64 0),(7,.int .u64 0),(8,.int .i64 0)],[(14,[.rows 1 (wRows [0,0]) (some [])])],[14]⟩)∨(n=0∧st=⟨[(0,.sl (wRows [x]) false),(1,.sl (wRows [y]) false),(5,.osl 14 0 0 2 2),(6,.int .i64 0),(7,.int .u64 0),(8,.int .i64 1)],[(14,[.rows 1 (wRows [x*y,0]) (some [])])],[14]⟩)) 1 _ (.inl ⟨rfl,rfl⟩) gX ?_;rintro n st (⟨rfl,rfl⟩ | ⟨rfl,rfl⟩)
   ·refine gGo ?_;intros;refine ⟨_,_,by omega,.inr ⟨rfl,rfl⟩,[(14,14)],[],[],LeG.mk' rfl rfl rfl ⟨⟨_,.refl _,rfl⟩,⟨_,.refl _,rfl⟩,⟨_,.refl _,rfl⟩,⟨_,.refl _,rfl⟩,⟨_,.refl _,?_⟩,⟨_,.refl _,rfl⟩,trivial⟩ (.cons 14 rfl rfl (.refl _) ?_ .nil) rfl rfl (by rw [hK];rfl)⟩
    ·exact congrArg (V.int .u64) es
    ·exact congrArg (fun z=>[Blk.rows 1 [[V.int .u32 z],[V.int .u32 0]] (some [])]) ec.symm
   ·refine gGo ?_;intros;refine ⟨_,_,by omega,.inr ⟨rfl,rfl⟩,⟨[(14,14)],[],[],.mq (.ci 14 .nil)⟩⟩
  ·refine gA ?_;refine gA ?_;(refine gE env hN (by kernel_rfl) ?_;conv=>whnf);refine gGs ?_;intros;refine W.leG (mp:=[]) (bo:=[14]) (st':=⟨[(5,.sl (wRows [x*y,0]) false),(18,.bool false)],[],[]⟩)
    (LeG.mk' rfl rfl rfl ⟨⟨_,Lent.whole rfl rfl rfl rfl (.inl rfl),rfl⟩,⟨_,.refl _,rfl⟩,trivial⟩ .nil rfl rfl (by rw [hK];rfl)) ?_
   exact gR
def bigP (n:Nat):List V:=bigV false (wd n)
theorem bigF {l:List Nat}{n:Nat}(h:trimL l=wd n):Spec Tryz.prog 199 [.bool false,.sl (wRows l) false] [] (.agg (bigP n)) []:=by
 have sp:=big_spec false l;rw [h] at sp;exact sp
set_option maxHeartbeats 4000000 in
theorem fromInt_spec (n:Nat) (h:n<4294967296):Spec Tryz.prog 204 [.int .i64 n] [] (.agg (bigP n)) []:=by
 have sp:=bigF (trim_two n);have e1:IntKind.u32.wrap (IntKind.u64.wrap (n:Int))=n:=by rw [u64w (by omega),u32w (by omega)]
 have e2:IntKind.u32.wrap ((IntKind.u64.wrap (n:Int)).fdiv (2 ^ min (32:Int).toNat IntKind.u64.bits))=0:=by
  rw [u64w (by omega),show min (32:Int).toNat IntKind.u64.bits=32 from rfl,fdiv_nat,Nat.div_eq_of_lt (by omega)];rfl
 refine gEn env Tryz.func204 fun Γ hN hK hML=>?_;refine gGo ?_;rw [e1,e2];refine g ?_;(refine gM ?_;conv=>whnf);exact retH rfl (.norm _) rfl rfl rfl trivial
set_option maxHeartbeats 4000000 in
theorem validBig_spec (n:Nat):Spec Tryz.prog 196 [.agg (bigP n)] [] (.bool true) []:=by
 by_cases h:n=0
 ·subst h;rw [show bigP 0=[.bool false,.sl (wRows []) false] from rfl];have hl:(wRows []).length=0:=rfl;refine gEn env Tryz.func196 fun Γ hN hK hML=>?_;exact gR
 ·rw [show bigP n=[.bool false,.sl (wRows [n]) false] by unfold bigP;rw [wd_pos h];rfl];have hl:(wRows [n]).length=1:=rfl;refine gEn env Tryz.func196 fun Γ hN hK hML=>?_;exact gR
set_option maxHeartbeats 4000000 in
theorem minus_spec:Spec Tryz.prog 161 [.agg (bigP 0)] [] (.agg (bigP 0)) []:=by
 have sp:Spec Tryz.prog 199 [.bool true,.sl (wRows []) false] [] (.agg (bigP 0)) []:=big_spec true [];rw [show bigP 0=[.bool false,.sl (wRows []) false] from rfl] at *;refine gEn env Tryz.func161 fun Γ hN hK hML=>?_;refine g ?_;(refine gM ?_;conv=>whnf);exact retH rfl (.norm _) rfl rfl rfl trivial
set_option maxHeartbeats 4000000 in
theorem plus_spec (n:Nat) (h:n<4294967296):Spec Tryz.prog 159 [.agg (bigP n),.agg (bigP 0)] [] (.agg (bigP n)) []:=by
 have sp1:=add_spec n h;have sp2:Spec Tryz.prog 199 [.bool false,.sl (wRows (if n=0 then [0] else [n,0])) false] [] (.agg (bigP n)) []:=by
  refine bigF ?_;split
  ·rename_i e;subst e;exact trim_one 0
  ·exact trim_two n
 rw [show bigP 0=[.bool false,.sl (wRows []) false] from rfl] at *;generalize (if n=0 then [0] else [n,0])=L at *;refine gEn env Tryz.func159 fun Γ hN hK hML=>?_;refine g ?_;(refine gM ?_;conv=>whnf);exact retH rfl (.norm _) rfl rfl rfl trivial
set_option maxHeartbeats 4000000 in
theorem times_spec (x y:Nat) (hx:x<4294967296) (hy:y<4294967296) (hy0:y≠0) (hxy:x*y<4294967296):Spec Tryz.prog 160 [.agg (bigP x),.agg (bigP y)] [] (.agg (bigP (x*y))) []:=by
 have sp1:=mul_spec x y hx hy hy0 hxy;have sp2:=bigF (trim_wd (x*y));refine gEn env Tryz.func160 fun Γ hN hK hML=>?_;refine g ?_;(refine gM ?_;conv=>whnf);exact retH rfl (.norm _) rfl rfl rfl trivial
theorem half_bits (x k:Nat):x / 2 ^ k=2*(x / 2 ^ (k+1))+x / 2 ^ k % 2:=by
 rw [Nat.pow_succ,←Nat.div_div_eq_div_mul];omega
theorem div_step {X y b:Nat}(hy:y≠0) (hb:b<2):(2*X+b) % y=(if y≤2*(X % y)+b then 2*(X % y)+b-y else 2*(X % y)+b)∧(2*X+b) / y=2*(X / y)+(if y≤2*(X % y)+b then 1 else 0):=by
 have h1:X % y<y:=Nat.mod_lt _ (by omega);have h2:2*X+b=y*(2*(X / y))+(2*(X % y)+b):=by
  have:=Nat.div_add_mod X y;rw [←Nat.mul_assoc,Nat.mul_comm y 2,Nat.mul_assoc];omega
 split
 ·have h3:2*X+b=y*(2*(X / y)+1)+(2*(X % y)+b-y):=by rw [Nat.mul_add];omega
  have h4:2*(X % y)+b-y<y:=by omega
  rw [h3,Nat.mul_add_mod,Nat.mod_eq_of_lt h4,Nat.mul_add_div (by omega),Nat.div_eq_of_lt h4];exact ⟨rfl,rfl⟩
 ·have h4:2*(X % y)+b<y:=by omega
  rw [h2,Nat.mul_add_mod,Nat.mod_eq_of_lt h4,Nat.mul_add_div (by omega),Nat.div_eq_of_lt h4];exact ⟨rfl,rfl⟩
theorem set_bit {a q:Nat}{z:Int}(hq:q<32) (hz:z=(q:Int)) (h:a*2 ^ (q+1)+2 ^ q<4294967296) :
  IntKind.u32.wrap ((BitVec.ofInt IntKind.u32.bits ((a*2 ^ (q+1):Nat):Int) ||| BitVec.ofInt IntKind.u32.bits (IntKind.u32.wrap (1*2 ^ min (IntKind.u64.wrap z).toNat IntKind.u32.bits))).toNat:Nat)=((a*2 ^ (q+1)+2 ^ q:Nat):Int):=by
 have g:=or_low a (2 ^ q) (q+1) (Nat.pow_lt_pow_right (by decide) (by omega));rw [Nat.mul_comm (2 ^ (q+1))] at g;have e:(2:Int) ^ q=((2 ^ q:Nat):Int):=by simp
 rw [hz,u64w (n:=(q:Int)) (by omega),Int.toNat_natCast,show min q IntKind.u32.bits=q from Nat.min_eq_left (show q≤32 by omega),Int.one_mul,e];generalize a*2 ^ (q+1)=P at *;generalize 2 ^ q=Q at *;rw [u32w (n:=(Q:Int)) (by omega)];exact or_disj _ _ (by omega) (by omega) g (by omega)
set_option maxHeartbeats 8000000 in
theorem div_spec (x y:Nat) (hx:x<1073741824) (hx0:x≠0) (hy:y<536870912) (hy0:y≠0):Spec Tryz.prog 226 [.sl (wRows (wd x)) false,.sl (wRows (wd y)) false] [] (.tup [.sl (wRows (wd (x / y))) false,.sl (wRows (wd (x % y))) false]) []:=by
 have sp0:=trim_spec [x / y];rw [trim_one] at sp0;rw [wd_pos hx0];have hlx:(wRows [x]).length=1:=rfl;refine gEn env Tryz.func226 fun Γ hN hK hML=>?_;refine gGo ?_;intros;refine And.intro ⟨by omega,by omega,(by show ((wRows [x]).length:Int)*4≤_;omega),by omega⟩ ?_;(conv=>whnf);refine gGo ?_;intros;refine W.loopG (fun n st=>∃ k:Nat,k≤32∧n=k∧st=⟨[(0,.sl (wRows [x]) false),(1,.sl (wRows (wd y)) false),(4,.osl 9 0 0 1 1),(5,.sl (wRows (wd (x / 2 ^ k % y))) false),(6,.int .i64 ((k:Int)-1))],[(9,[.rows 1 (wRows [x / 2 ^ k / y*2 ^ k]) (some [])])],[9]⟩)
  32 _ ⟨32,by omega,rfl,rfl⟩ ?_ ?_
 ·have e:x / 2 ^ 32=0:=Nat.div_eq_of_lt (by omega);rw [e,Nat.zero_mod,Nat.zero_div,Nat.zero_mul];exact ⟨[(9,9)],[],[],LeG.mk' rfl rfl rfl ⟨⟨_,.refl _,rfl⟩,⟨_,.refl _,rfl⟩,⟨_,.refl _,rfl⟩,⟨_,.norm _,rfl⟩,⟨_,.refl _,rfl⟩,trivial⟩ (.ci 9 .nil) rfl rfl (by rw [hK];rfl)⟩
 rintro n st ⟨k,hk,rfl,rfl⟩;refine gT (fun hb=>?_) fun hb=>?_
 ·obtain ⟨q,rfl⟩:∃ q,n=q+1:=⟨n-1,by omega⟩
  have hq:((q+1:Nat):Int)-1=(q:Int):=by omega
  have hbit:=half_bits x q;have hst:=div_step (X:=x / 2 ^ (q+1)) (y:=y) (b:=x / 2 ^ q % 2) hy0 (by omega);rw [←hbit] at hst;have hX:x / 2 ^ (q+1) % y<y:=Nat.mod_lt _ (by omega);have sp1:=bit_spec x q (by omega) (by omega);have sp2:=twice_spec (x / 2 ^ (q+1) % y) (x / 2 ^ q % 2) (by omega) (by omega);have hpow:(2*(x / 2 ^ (q+1) / y)+0)*2 ^ q=x / 2 ^ (q+1) / y*2 ^ (q+1):=by
   rw [Nat.add_zero,Nat.pow_succ,Nat.mul_comm 2,Nat.mul_assoc,Nat.mul_comm 2]
  have hpow1:(2*(x / 2 ^ (q+1) / y)+1)*2 ^ q=x / 2 ^ (q+1) / y*2 ^ (q+1)+2 ^ q:=by
   rw [Nat.add_mul,Nat.pow_succ,Nat.mul_comm 2,Nat.mul_assoc,Nat.mul_comm 2,Nat.one_mul]
  generalize x / 2 ^ (q+1) % y=r at *;have hb2:x / 2 ^ q % 2<2:=Nat.mod_lt _ (by omega);generalize x / 2 ^ q % 2=b at *;rw [←hq] at sp1;have sp3:=cmp_spec (2*r+b) y;refine g ?_;by_cases hge:y≤2*r+b
  ·rw [if_pos hge,if_pos hge] at hst;have sp4:=sub_spec (2*r+b) y (by omega) (by omega) hge;have h1:(((q+1:Nat):Int)-1).tdiv 32=0:=by rw [hq,Int.tdiv_eq_ediv_of_nonneg (by omega)];omega
   have h2:(((q+1:Nat):Int)-1).tmod 32=q:=by rw [hq,Int.tmod_eq_emod_of_nonneg (by omega)];omega
   have hQ:x / 2 ^ (q+1) / y*2 ^ (q+1)+2 ^ q≤x:=by
    have g1:x / 2 ^ q / y*2 ^ q≤x:=Nat.le_trans (Nat.mul_le_mul_right _ (Nat.div_le_self _ _)) (Nat.div_mul_le_self _ _);rw [hst.2,hpow1] at g1;exact g1
   have hor:=set_bit (a:=x / 2 ^ (q+1) / y) (show q<32 by omega) h2 (Nat.lt_of_le_of_lt hQ (by omega));refine gK (by unfold cmpN;split;omega;split<;>omega) ?_;(conv=>whnf);refine g ?_;refine rowAt_of (r:=[.int .u32 ((x / 2 ^ (q+1) / y*2 ^ (q+1):Nat):Int)]) (by rw [h1];rfl) ?_;(conv=>whnf);refine gGo ?_;refine And.intro (by rw [h2,u64w (by omega)];omega) ?_;(conv=>whnf);refine gGo ?_;refine rowAt_of (r:=[.int .u32 ((x / 2 ^ (q+1) / y*2 ^ (q+1):Nat):Int)]) (by rw [h1];rfl) ?_;(conv=>whnf);refine gGo ?_;refine ⟨_,_,?_,⟨q,by omega,rfl,rfl⟩,[(9,9)],[],[],?_⟩
   ·omega
   ·rw [hst.1,hst.2,hpow1];refine LeG.mk' rfl rfl rfl ⟨⟨_,.refl _,rfl⟩,⟨_,.refl _,rfl⟩,⟨_,.refl _,rfl⟩,⟨_,.refl _,rfl⟩,⟨_,.refl _,(by show V.int .i64 (((q+1:Nat):Int)-1-1)=_;rw [hq])⟩,trivial⟩ (.cons 9 rfl rfl (.refl _) ?_ .nil) rfl rfl (by rw [hK];rfl);rw [h1];exact congrArg (fun z=>[Blk.rows 1 [[V.int .u32 z]] (some [])]) hor.symm
  ·rw [if_neg hge,if_neg hge] at hst;refine gL (by unfold cmpN;rw [if_pos (by omega)];decide) ?_;(conv=>whnf);refine gGo ?_;refine ⟨_,_,?_,⟨q,by omega,rfl,rfl⟩,[(9,9)],[],[],?_⟩
   ·omega
   ·rw [hst.1,hst.2];exact LeG.mk' rfl rfl rfl ⟨⟨_,.refl _,rfl⟩,⟨_,.refl _,rfl⟩,⟨_,.refl _,rfl⟩,⟨_,.refl _,rfl⟩,⟨_,.refl _,(by show V.int .i64 (((q+1:Nat):Int)-1-1)=_;rw [hq])⟩,trivial⟩ (.cons 9 rfl rfl (.refl _) (by rw [hpow];rfl) .nil) rfl rfl (by rw [hK];rfl)
 ·have hn0:n=0:=by omega
  subst hn0;rw [show x / 2 ^ 0 % y=x % y by simp,show x / 2 ^ 0 / y*2 ^ 0=x / y by simp];refine W.leG (mp:=[]) (bo:=[9]) (st':=⟨[(4,.sl (wRows [x / y]) false),(5,.sl (wRows (wd (x % y))) false),(15,.bool false)],[],[]⟩)
   (LeG.mk' rfl rfl rfl ⟨⟨_,Lent.whole rfl rfl rfl rfl (.inl rfl),rfl⟩,⟨_,.refl _,rfl⟩,⟨_,.refl _,rfl⟩,trivial⟩ .nil rfl rfl (by rw [hK];rfl)) ?_
  exact gR
theorem gcd_even_left {a b:Nat}(ha:a % 2=0) (hb:b % 2=1):Nat.gcd (a / 2) b=Nat.gcd a b:=by
 have e:a=2*(a / 2):=by omega
 have hc:Nat.Coprime 2 b:=by
  have h:=Nat.gcd_rec 2 b;rw [hb] at h;unfold Nat.Coprime;rw [h];decide
 conv=>rhs;rw [e]
 exact (Nat.Coprime.gcd_mul_left_cancel _ hc).symm
theorem gcd_even_right {a b:Nat}(ha:a % 2=1) (hb:b % 2=0):Nat.gcd a (b / 2)=Nat.gcd a b:=by
 rw [Nat.gcd_comm,gcd_even_left hb ha,Nat.gcd_comm]
theorem gcd_even {a b:Nat}(ha:a % 2=0) (hb:b % 2=0):Nat.gcd a b=2*Nat.gcd (a / 2) (b / 2):=by
 have e:a=2*(a / 2):=by omega
 have e2:b=2*(b / 2):=by omega
 conv=>lhs;rw [e,e2]
 exact Nat.gcd_mul_left _ _ _
theorem gcd_sub {a b:Nat}(h:a≤b):Nat.gcd a (b-a)=Nat.gcd a b:=Nat.gcd_sub_self_right h
set_option maxHeartbeats 8000000 in
theorem gcd_spec (x y:Nat) (hx:x<1048576) (hy:y<1048576) (hx0:x≠0) (hy0:y≠0):Spec Tryz.prog 198 [.sl (wRows (wd x)) false,.sl (wRows (wd y)) false] [] (.sl (wRows (wd (Nat.gcd x y))) false) []:=by
 have hgx:Nat.gcd x y≤x:=Nat.gcd_le_left y (by omega);have hgp:Nat.gcd x y≠0:=fun h=>hx0 (Nat.gcd_eq_zero_iff.1 h).1;rw [wd_pos hx0,wd_pos hy0];refine gEn env Tryz.func198 fun Γ hN hK hML=>?_;refine gGo ?_;refine W.loopG (fun n st=>∃ a b k:Nat,a≠0∧b≠0∧a+k≤x∧b≤y∧Nat.gcd x y=Nat.gcd a b*2 ^ k∧n=a∧st=⟨[(0,.sl (wRows [a]) false),(1,.sl (wRows [b]) false),(5,.int .i64 k)],[],[]⟩)
  x _ ⟨x,y,0,hx0,hy0,by omega,by omega,by simp,rfl,rfl⟩ gX ?_
 rintro n st ⟨a,b,k,ha0,hb0,hak,hby,hg,rfl,rfl⟩;have hae:=and_one n (by omega);have hbe:=and_one b (by omega);have hla:(wRows [n]).length=1:=rfl;have hlb:(wRows [b]).length=1:=rfl;refine gT (fun hb=>?_) fun hb=>?_
 ·rw [hae] at hb;have h1:=hb;clear hb;refine gT (fun hb=>?_) fun hb=>?_
  ·rw [hbe] at hb;have s1:=half_spec n (by omega);have s2:=half_spec b (by omega);rw [wd_pos (show n / 2≠0 by omega)] at s1;rw [wd_pos (show b / 2≠0 by omega)] at s2;refine gGo ?_;(refine gPC (s1) ?_;conv=>whnf);refine gGo ?_;(refine gPC (s2) ?_;conv=>whnf);refine gGo ?_;refine ⟨_,_,?_,⟨n / 2,b / 2,k+1,by omega,by omega,by omega,by omega,?_,rfl,rfl⟩,gX⟩
   ·omega
   ·rw [hg,gcd_even (a:=n) (b:=b) (by omega) (by omega),Nat.pow_succ,Nat.mul_comm 2,Nat.mul_assoc,Nat.mul_comm 2]
  ·rw [hbe] at hb;have hodd:n % 2=1∨b % 2=1:=by omega
   refine gGo ?_;refine W.loopG (fun m st=>∃ a' b':Nat,a'≠0∧a' < 1048576∧b' < 1048576∧Nat.gcd x y=Nat.gcd a' b' * 2 ^ k∧(a' % 2=1∨b' % 2=1)∧m=a' + b'∧st=⟨[(0,.sl (wRows [a']) false),(1,.sl (wRows (wd b')) false),(5,.int .i64 k)],[],[]⟩)
    (n+b) _ ⟨n,b,ha0,by omega,by omega,hg,hodd,rfl,rfl⟩ ⟨[],[],[],LeG.mk' rfl rfl rfl ⟨⟨_,.refl _,rfl⟩,⟨_,.refl _,by rw [wd_pos hb0];rfl⟩,⟨_,.refl _,rfl⟩,trivial⟩ .nil rfl rfl (by rw [hK];rfl)⟩ ?_
   clear hae hbe hla hlb hodd hg ha0 hb0;rintro m st ⟨a,b,ha0,hax,hbx,hg,hodd,rfl,rfl⟩;by_cases hb0:b=0
   ·subst hb0;rw [Nat.gcd_zero_right] at hg;refine gA ?_;refine gA ?_;(refine gE env hN (by kernel_rfl) ?_;conv=>whnf);refine gGs ?_;intros;refine gL (by show ¬ (0:Int)<0;decide) ?_;(conv=>whnf);refine gGo ?_;refine W.loopG (fun m st=>∃ j:Nat,j≤k∧m=j∧st=⟨[(0,.sl (wRows [a*2 ^ (k-j)]) false),(5,.int .i64 j)],[],[]⟩)
     k _ ⟨k,by omega,rfl,rfl⟩ ⟨[],[],[],LeG.mk' rfl rfl rfl ⟨⟨_,.refl _,by rw [Nat.sub_self,Nat.pow_zero,Nat.mul_one];rfl⟩,⟨_,.refl _,rfl⟩,trivial⟩ .nil rfl rfl (by rw [hK];rfl)⟩ ?_
    rintro m st ⟨j,hj,rfl,rfl⟩;refine gT (fun hb=>?_) fun hb=>?_
    ·obtain ⟨q,rfl⟩:∃ q,m=q+1:=⟨m-1,by omega⟩
     have h2:a*2 ^ (k-(q+1))≤a*2 ^ k:=Nat.mul_le_mul_left _ (Nat.pow_le_pow_right (by decide) (by omega));have h3:a*2 ^ (k-(q+1))≠0:=Nat.mul_ne_zero ha0 (Nat.ne_of_gt (Nat.pow_pos (by decide)));have e:2*(a*2 ^ (k-(q+1)))+0=a*2 ^ (k-q):=by
      rw [show k-q=k-(q+1)+1 by omega,Nat.pow_succ];rw [Nat.add_zero,Nat.mul_comm 2,Nat.mul_assoc]
     have h4:a*2 ^ (k-q)≠0:=Nat.mul_ne_zero ha0 (Nat.ne_of_gt (Nat.pow_pos (by decide)));have s1:=twice_spec (a*2 ^ (k-(q+1))) 0 (by omega) (by omega);rw [e,wd_pos h3,wd_pos h4] at s1;refine g ?_;refine ⟨_,_,?_,⟨q,by omega,rfl,rfl⟩,[],[],[],LeG.mk' rfl rfl rfl ⟨⟨_,.refl _,rfl⟩,⟨_,.refl _,(by show V.int .i64 (((q+1:Nat):Int)-1)=_;congr 1;omega)⟩,trivial⟩ .nil rfl rfl (by rw [hK];rfl)⟩;omega
    ·have hm0:m=0:=by omega
     subst hm0;rw [Nat.sub_zero,←hg,←wd_pos (show Nat.gcd x y≠0 from hgp)];exact gR
   ·rw [wd_pos hb0];have hlb:(wRows [b]).length=1:=rfl;refine gGo ?_;intros;refine W.loopG (fun m st=>∃ a':Nat,a'≠0∧a'≤a∧Nat.gcd a' b=Nat.gcd a b∧(a' % 2=1∨b % 2=1)∧m=a'∧st=⟨[(0,.sl (wRows [a']) false),(1,.sl (wRows [b]) false),(5,.int .i64 k)],[],[]⟩)
     a _ ⟨a,ha0,by omega,rfl,hodd,rfl,rfl⟩ gX ?_
    clear hlb;rintro m st ⟨a1,h1,h2,h3,h4,rfl,rfl⟩;have hme:=and_one m (by omega);refine gT (fun hb=>?_) fun hb=>?_
    ·rw [hme] at hb;have s1:=half_spec m (by omega);rw [wd_pos (show m / 2≠0 by omega)] at s1;refine g ?_;refine ⟨_,_,?_,⟨m / 2,by omega,by omega,?_,.inr (by omega),rfl,rfl⟩,gX⟩
     ·omega
     ·rw [gcd_even_left (by omega) (by omega),h3]
    ·rw [hme] at hb;have hm1:m % 2=1:=by omega
     clear hb hme;refine gGo ?_;refine W.loopG (fun m' st=>∃ b':Nat,b'≠0∧b'≤b∧Nat.gcd m b'=Nat.gcd a b∧m'=b'∧st=⟨[(0,.sl (wRows [m]) false),(1,.sl (wRows [b']) false),(5,.int .i64 k)],[],[]⟩)
      b _ ⟨b,hb0,by omega,h3,rfl,rfl⟩ gX ?_
     rintro m' st ⟨b1,g1,g2,g3,rfl,rfl⟩;have hme:=and_one m' (by omega);refine gT (fun hb=>?_) fun hb=>?_
     ·rw [hme] at hb;have s1:=half_spec m' (by omega);rw [wd_pos (show m' / 2≠0 by omega)] at s1;refine g ?_;refine ⟨_,_,?_,⟨m' / 2,by omega,by omega,?_,rfl,rfl⟩,gX⟩
      ·omega
      ·rw [gcd_even_right (by omega) (by omega),g3]
     ·rw [hme] at hb;have hm2:m' % 2=1:=by omega
      clear hb hme;have s2:=cmp_spec m m';rw [wd_pos h1,wd_pos g1] at s2;refine g ?_;by_cases hlt:m' < m
      ·have s3:=sub_spec m m' (by omega) (by omega) (by omega);rw [wd_pos h1,wd_pos g1] at s3;refine gK (by unfold cmpN;rw [if_neg (by omega),if_pos hlt];decide) ?_;(conv=>whnf);refine g ?_;refine ⟨_,_,?_,⟨m',m-m',by omega,by omega,by omega,?_,.inl hm2,rfl,rfl⟩,gX⟩
       ·omega
       ·rw [hg,←g3,gcd_sub (by omega),Nat.gcd_comm]
      ·have s3:=sub_spec m' m (by omega) (by omega) (by omega);rw [wd_pos h1,wd_pos g1] at s3;refine gL (by unfold cmpN;split<;>omega) ?_;(conv=>whnf);refine g ?_;refine ⟨_,_,?_,⟨m,m' - m,by omega,by omega,by omega,?_,.inl hm1,rfl,rfl⟩,gX⟩
       ·omega
       ·rw [hg,←g3,gcd_sub (by omega)]
 ·rw [hae] at hb;have hodd:n % 2=1∨b % 2=1:=by omega
  refine gGo ?_;refine W.loopG (fun m st=>∃ a' b':Nat,a'≠0∧a' < 1048576∧b' < 1048576∧Nat.gcd x y=Nat.gcd a' b' * 2 ^ k∧(a' % 2=1∨b' % 2=1)∧m=a' + b'∧st=⟨[(0,.sl (wRows [a']) false),(1,.sl (wRows (wd b')) false),(5,.int .i64 k)],[],[]⟩)
   (n+b) _ ⟨n,b,ha0,by omega,by omega,hg,hodd,rfl,rfl⟩ ⟨[],[],[],LeG.mk' rfl rfl rfl ⟨⟨_,.refl _,rfl⟩,⟨_,.refl _,by rw [wd_pos hb0];rfl⟩,⟨_,.refl _,rfl⟩,trivial⟩ .nil rfl rfl (by rw [hK];rfl)⟩ ?_
  clear hae hbe hla hlb hodd hg ha0 hb0;rintro m st ⟨a,b,ha0,hax,hbx,hg,hodd,rfl,rfl⟩;by_cases hb0:b=0
  ·subst hb0;rw [Nat.gcd_zero_right] at hg;refine gA ?_;refine gA ?_;(refine gE env hN (by kernel_rfl) ?_;conv=>whnf);refine gGs ?_;intros;refine gL (by show ¬ (0:Int)<0;decide) ?_;(conv=>whnf);refine gGo ?_;refine W.loopG (fun m st=>∃ j:Nat,j≤k∧m=j∧st=⟨[(0,.sl (wRows [a*2 ^ (k-j)]) false),(5,.int .i64 j)],[],[]⟩)
    k _ ⟨k,by omega,rfl,rfl⟩ ⟨[],[],[],LeG.mk' rfl rfl rfl ⟨⟨_,.refl _,by rw [Nat.sub_self,Nat.pow_zero,Nat.mul_one];rfl⟩,⟨_,.refl _,rfl⟩,trivial⟩ .nil rfl rfl (by rw [hK];rfl)⟩ ?_
   rintro m st ⟨j,hj,rfl,rfl⟩;refine gT (fun hb=>?_) fun hb=>?_
   ·obtain ⟨q,rfl⟩:∃ q,m=q+1:=⟨m-1,by omega⟩
    have h2:a*2 ^ (k-(q+1))≤a*2 ^ k:=Nat.mul_le_mul_left _ (Nat.pow_le_pow_right (by decide) (by omega));have h3:a*2 ^ (k-(q+1))≠0:=Nat.mul_ne_zero ha0 (Nat.ne_of_gt (Nat.pow_pos (by decide)));have e:2*(a*2 ^ (k-(q+1)))+0=a*2 ^ (k-q):=by
     rw [show k-q=k-(q+1)+1 by omega,Nat.pow_succ];rw [Nat.add_zero,Nat.mul_comm 2,Nat.mul_assoc]
    have h4:a*2 ^ (k-q)≠0:=Nat.mul_ne_zero ha0 (Nat.ne_of_gt (Nat.pow_pos (by decide)));have s1:=twice_spec (a*2 ^ (k-(q+1))) 0 (by omega) (by omega);rw [e,wd_pos h3,wd_pos h4] at s1;refine g ?_;refine ⟨_,_,?_,⟨q,by omega,rfl,rfl⟩,[],[],[],LeG.mk' rfl rfl rfl ⟨⟨_,.refl _,rfl⟩,⟨_,.refl _,(by show V.int .i64 (((q+1:Nat):Int)-1)=_;congr 1;omega)⟩,trivial⟩ .nil rfl rfl (by rw [hK];rfl)⟩;omega
   ·have hm0:m=0:=by omega
    subst hm0;rw [Nat.sub_zero,←hg,←wd_pos (show Nat.gcd x y≠0 from hgp)];exact gR
  ·rw [wd_pos hb0];have hlb:(wRows [b]).length=1:=rfl;refine gGo ?_;intros;refine W.loopG (fun m st=>∃ a':Nat,a'≠0∧a'≤a∧Nat.gcd a' b=Nat.gcd a b∧(a' % 2=1∨b % 2=1)∧m=a'∧st=⟨[(0,.sl (wRows [a']) false),(1,.sl (wRows [b]) false),(5,.int .i64 k)],[],[]⟩)
    a _ ⟨a,ha0,by omega,rfl,hodd,rfl,rfl⟩ gX ?_
   clear hlb;rintro m st ⟨a1,h1,h2,h3,h4,rfl,rfl⟩;have hme:=and_one m (by omega);refine gT (fun hb=>?_) fun hb=>?_
   ·rw [hme] at hb;have s1:=half_spec m (by omega);rw [wd_pos (show m / 2≠0 by omega)] at s1;refine g ?_;refine ⟨_,_,?_,⟨m / 2,by omega,by omega,?_,.inr (by omega),rfl,rfl⟩,gX⟩
    ·omega
    ·rw [gcd_even_left (by omega) (by omega),h3]
   ·rw [hme] at hb;have hm1:m % 2=1:=by omega
    clear hb hme;refine gGo ?_;refine W.loopG (fun m' st=>∃ b':Nat,b'≠0∧b'≤b∧Nat.gcd m b'=Nat.gcd a b∧m'=b'∧st=⟨[(0,.sl (wRows [m]) false),(1,.sl (wRows [b']) false),(5,.int .i64 k)],[],[]⟩)
     b _ ⟨b,hb0,by omega,h3,rfl,rfl⟩ gX ?_
    rintro m' st ⟨b1,g1,g2,g3,rfl,rfl⟩;have hme:=and_one m' (by omega);refine gT (fun hb=>?_) fun hb=>?_
    ·rw [hme] at hb;have s1:=half_spec m' (by omega);rw [wd_pos (show m' / 2≠0 by omega)] at s1;refine g ?_;refine ⟨_,_,?_,⟨m' / 2,by omega,by omega,?_,rfl,rfl⟩,gX⟩
     ·omega
     ·rw [gcd_even_right (by omega) (by omega),g3]
    ·rw [hme] at hb;have hm2:m' % 2=1:=by omega
     clear hb hme;have s2:=cmp_spec m m';rw [wd_pos h1,wd_pos g1] at s2;refine g ?_;by_cases hlt:m' < m
     ·have s3:=sub_spec m m' (by omega) (by omega) (by omega);rw [wd_pos h1,wd_pos g1] at s3;refine gK (by unfold cmpN;rw [if_neg (by omega),if_pos hlt];decide) ?_;(conv=>whnf);refine g ?_;refine ⟨_,_,?_,⟨m',m-m',by omega,by omega,by omega,?_,.inl hm2,rfl,rfl⟩,gX⟩
      ·omega
      ·rw [hg,←g3,gcd_sub (by omega),Nat.gcd_comm]
     ·have s3:=sub_spec m' m (by omega) (by omega) (by omega);rw [wd_pos h1,wd_pos g1] at s3;refine gL (by unfold cmpN;split<;>omega) ?_;(conv=>whnf);refine g ?_;refine ⟨_,_,?_,⟨m,m' - m,by omega,by omega,by omega,?_,.inl hm1,rfl,rfl⟩,gX⟩
      ·omega
      ·rw [hg,←g3,gcd_sub (by omega)]
def fracV (p q:Nat):List V:=bigP p++bigP q
theorem fracV_eq (p q:Nat):fracV p q=[.bool false,.sl (wRows (wd p)) false,.bool false,.sl (wRows (wd q)) false]:=rfl
def partF (x y:Nat):Nat×Nat:=if x=0 then (0,1) else (x / Nat.gcd x y,y / Nat.gcd x y)
set_option maxHeartbeats 8000000 in
theorem lowest_spec (x y:Nat) (hx:x<1048576) (hy:y<1048576) (hy0:y≠0):Spec Tryz.prog 219 [.agg (bigP x),.agg (bigP y)] [] (.agg (fracV (partF x y).1 (partF x y).2)) []:=by
 by_cases hx0:x=0
 ·subst hx0;have sp:=fromInt_spec 1 (by omega);rw [show (partF 0 y)=(0,1) from rfl];rw [show bigP 0=[.bool false,.sl (wRows []) false] from rfl];have hl0:(wRows []).length=0:=rfl;refine gEn env Tryz.func219 fun Γ hN hK hML=>?_;(refine g ?_;intros);(refine gM ?_;conv=>whnf);exact retH rfl (.norm _) rfl rfl rfl trivial
 ·have hg:Nat.gcd x y≠0:=fun h=>hx0 (Nat.gcd_eq_zero_iff.1 h).1;have hgx:Nat.gcd x y≤x:=Nat.gcd_le_left y (by omega);have sp1:=gcd_spec x y hx hy hx0 hy0;have sp2:=div_spec x (Nat.gcd x y) (by omega) hx0 (by omega) hg;have sp3:=div_spec y (Nat.gcd x y) (by omega) hy0 (by omega) hg;have sp4:=bigF (trim_wd (x / Nat.gcd x y));have sp5:=bigF (trim_wd (y / Nat.gcd x y));rw [show (partF x y)=(x / Nat.gcd x y,y / Nat.gcd x y) by unfold partF;rw [if_neg hx0]];rw [show bigP x=[.bool false,.sl (wRows (wd x)) false] from rfl,show bigP y=[.bool false,.sl (wRows (wd y)) false] from rfl];generalize Nat.gcd x y=g at *;have hlx:(wRows (wd x)).length=1:=by rw [wd_pos hx0];rfl
  refine gEn env Tryz.func219 fun Γ hN hK hML=>?_;refine gGo ?_;intros;(refine gPC (sp1) ?_;conv=>whnf);refine gGo ?_;(refine gPC (sp2) ?_;conv=>whnf);refine gGo ?_;(refine gPC (sp3) ?_;conv=>whnf);refine gGo ?_;(refine gPC (sp4) ?_;conv=>whnf);refine gGo ?_;(refine gPC (sp5) ?_;conv=>whnf);refine gGo ?_;(refine gM ?_;conv=>whnf);exact retH rfl (.norm _) rfl rfl rfl trivial
set_option maxHeartbeats 8000000 in
theorem make_spec (x y:Nat) (hx:x<1048576) (hy:y<1048576) (hy0:y≠0):Spec Tryz.prog 203 [.agg (bigP x),.agg (bigP y)] [] (.tup [.agg (fracV (partF x y).1 (partF x y).2),.int .i64 0]) []:=by
 have sp1:=validBig_spec x;have sp2:=validBig_spec y;have sp3:=lowest_spec x y hx hy hy0;rw [show bigP x=[.bool false,.sl (wRows (wd x)) false] from rfl,show bigP y=[.bool false,.sl (wRows (wd y)) false] from rfl] at *;have hly:(wRows (wd y)).length=1:=by rw [wd_pos hy0];rfl
 generalize (partF x y).1=p at *;generalize (partF x y).2=q at *;refine gEn env Tryz.func203 fun Γ hN hK hML=>?_;refine gGo ?_;(refine gPC (sp1) ?_;conv=>whnf);refine gGo ?_;(refine gPC (sp2) ?_;conv=>whnf);refine gGo ?_;intros;(refine gPC (sp3) ?_;conv=>whnf);refine gGo ?_;(refine gM ?_;conv=>whnf);exact retH rfl (.norm _) rfl rfl rfl trivial
set_option maxHeartbeats 8000000 in
theorem ratOf_spec (x y:Nat) (hx:x<1048576) (hy:y<1048576) (hy0:y≠0):Spec Tryz.prog 162 [.int .i64 x,.int .i64 y] [] (.tup [.agg (fracV (partF x y).1 (partF x y).2),.int .i64 0]) []:=by
 have sp1:=fromInt_spec x (by omega);have sp2:=fromInt_spec y (by omega);have sp3:=make_spec x y hx hy hy0;generalize (partF x y).1=p at *;generalize (partF x y).2=q at *;refine gEn env Tryz.func162 fun Γ hN hK hML=>?_;refine gGo ?_;(refine gPC (sp1) ?_;conv=>whnf);refine gGo ?_;(refine gPC (sp2) ?_;conv=>whnf);refine gGo ?_;(refine gPC (sp3) ?_;conv=>whnf);refine gGo ?_;(refine gM ?_;conv=>whnf);exact retH rfl (.norm _) rfl rfl rfl trivial
set_option maxHeartbeats 8000000 in
theorem part_spec (x y:Nat) (hx:x<1048576) (hy:y<1048576) (hy0:y≠0):Spec Tryz.prog 117 [.int .i64 x,.int .i64 y] [] (.agg (fracV (partF x y).1 (partF x y).2)) []:=by
 have sp:=ratOf_spec x y hx hy hy0;generalize (partF x y).1=p at *;generalize (partF x y).2=q at *;refine gEn env Tryz.func117 fun Γ hN hK hML=>?_;refine g ?_;(refine gM ?_;conv=>whnf);exact retH rfl (.norm _) rfl rfl rfl trivial
set_option maxHeartbeats 8000000 in
theorem int23_spec (x:Nat) (hx:x<1048576):Spec Tryz.prog 66 [.int .i64 x] [] (.agg (fracV (partF x 1).1 (partF x 1).2)) []:=by
 have sp:=part_spec x 1 hx (by omega) (by omega);generalize (partF x 1).1=p at *;generalize (partF x 1).2=q at *;refine gEn env Tryz.func66 fun Γ hN hK hML=>?_;refine g ?_;(refine gM ?_;conv=>whnf);exact retH rfl (.norm _) rfl rfl rfl trivial
set_option maxHeartbeats 8000000 in
theorem zero23_spec:Spec Tryz.prog 30 [] [] (.agg (fracV 0 1)) []:=by
 have sp:Spec Tryz.prog 66 [.int .i64 0] [] (.agg (fracV 0 1)) []:=int23_spec 0 (by omega);refine gEn env Tryz.func30 fun Γ hN hK hML=>?_;refine g ?_;(refine gM ?_;conv=>whnf);exact retH rfl (.norm _) rfl rfl rfl trivial
structure FracOK (p q:Nat):Prop where
 lt:p<1048576∧q<1048576
 ne:q≠0
 low:(p=0∧q=1)∨(p≠0∧Nat.gcd p q=1)
theorem partF_ok {x y:Nat}(hx:x<1048576) (hy:y<1048576) (hy0:y≠0):FracOK (partF x y).1 (partF x y).2:=by
 unfold partF;by_cases hx0:x=0
 ·rw [if_pos hx0];exact ⟨⟨by decide,by decide⟩,by decide,.inl ⟨rfl,rfl⟩⟩
 ·rw [if_neg hx0];have hg:0<Nat.gcd x y:=Nat.gcd_pos_of_pos_left _ (by omega);have h1:x / Nat.gcd x y≠0:=Nat.ne_of_gt (Nat.div_pos (Nat.gcd_le_left y (by omega)) hg);have h2:y / Nat.gcd x y≠0:=Nat.ne_of_gt (Nat.div_pos (Nat.gcd_le_right x (by omega)) hg);have h3:x / Nat.gcd x y≤x:=Nat.div_le_self _ _;have h4:y / Nat.gcd x y≤y:=Nat.div_le_self _ _;refine ⟨⟨?_,?_⟩,h2,.inr ⟨h1,?_⟩⟩
  ·show x / Nat.gcd x y<_;omega
  ·show y / Nat.gcd x y<_;omega
  ·exact Nat.gcd_div_gcd_div_gcd_of_pos_left (by omega)
set_option maxHeartbeats 8000000 in
theorem validRat_spec (p q:Nat) (h:FracOK p q):Spec Tryz.prog 158 [.agg (fracV p q)] [] (.bool true) []:=by
 have sp1:=validBig_spec p;have sp2:=validBig_spec q;have hlq:(wRows (wd q)).length=1:=by rw [wd_pos h.ne];rfl
 rcases h.low with ⟨rfl,rfl⟩ | ⟨h1,h2⟩
 ·have sp3:=cmp_spec 1 1;rw [wd_pos (show 1≠0 by decide),show cmpN 1 1=0 from rfl] at sp3;rw [fracV_eq,wd_zero];have hl0:(wRows []).length=0:=rfl;refine gEn env Tryz.func158 fun Γ hN hK hML=>?_;refine gGo ?_;(refine gPC (sp1) ?_;conv=>whnf);refine gGo ?_;(refine gPC (sp2) ?_;conv=>whnf);refine gGo ?_;intros;(refine gPC (sp3) ?_;conv=>whnf);refine gGr ?_;exact ret0 rfl rfl rfl
 ·have sp4:=gcd_spec p q h.lt.1 h.lt.2 h1 h.ne;rw [h2] at sp4;have sp3:=cmp_spec 1 1;rw [wd_pos (show 1≠0 by decide),show cmpN 1 1=0 from rfl] at sp3;rw [wd_pos (show 1≠0 by decide)] at sp4;have hlp:(wRows (wd p)).length=1:=by rw [wd_pos h1];rfl
  rw [fracV_eq];refine gEn env Tryz.func158 fun Γ hN hK hML=>?_;refine gGo ?_;(refine gPC (sp1) ?_;conv=>whnf);refine gGo ?_;(refine gPC (sp2) ?_;conv=>whnf);refine gGo ?_;intros;(refine gPC (sp4) ?_;conv=>whnf);refine gGo ?_;(refine gPC (sp3) ?_;conv=>whnf);refine gGr ?_;exact ret0 rfl rfl rfl
theorem zeroOK:FracOK 0 1:=⟨⟨by decide,by decide⟩,by decide,.inl ⟨rfl,rfl⟩⟩
set_option maxHeartbeats 8000000 in
theorem cmpRat_spec (p q:Nat) (h:FracOK p q):Spec Tryz.prog 116 [.agg (fracV p q),.agg (fracV 0 1)] [] (.int .i64 (if p=0 then 0 else 1)) []:=by
 have sp1:=validRat_spec p q h;have sp2:=validRat_spec 0 1 zeroOK;have sp3:=times_spec p 1 (by have:=h.lt;omega) (by decide) (by decide) (by have:=h.lt;omega);have sp4:=times_spec 0 q (by decide) (by have:=h.lt;omega) h.ne (by rw [Nat.zero_mul];decide);have sp5:=minus_spec;have sp6:=plus_spec p (by have:=h.lt;omega);rw [Nat.mul_one] at sp3;rw [Nat.zero_mul] at sp4;refine gEn env Tryz.func116 fun Γ hN hK hML=>?_;refine gGo ?_;(refine gPC (sp1) ?_;conv=>whnf);refine gGo ?_;(refine gPC (sp2) ?_;conv=>whnf);refine gGo ?_;(refine gPC (sp3) ?_;conv=>whnf);refine gGo ?_;(refine gPC (sp4) ?_;conv=>whnf);refine gGo ?_;(refine gPC (sp5) ?_;conv=>whnf);refine gGo ?_;(refine gPC (sp6) ?_;conv=>whnf);refine gGo ?_;intros;by_cases h0:p=0
 ·subst h0;rw [if_pos rfl];refine gK (by rfl) ?_;(conv=>whnf);exact gR
 ·rw [if_neg h0];refine gL (by show ¬ (((wRows (wd p)).length:Int)=0);rw [wd_pos h0];show ¬ ((1:Int)=0);decide) ?_;(conv=>whnf);exact gR
set_option maxHeartbeats 8000000 in
theorem less23_spec (p q:Nat) (h:FracOK p q):Spec Tryz.prog 65 [.agg (fracV p q),.agg (fracV 0 1)] [] (.bool false) []:=by
 have sp1:=cmpRat_spec p q h;have hr:0≤(if p=0 then (0:Int) else 1):=by split<;>decide
 generalize (if p=0 then (0:Int) else 1)=r at *;refine gEn env Tryz.func65 fun Γ hN hK hML=>?_;exact gR
set_option maxHeartbeats 4000000 in
theorem counts29_spec (c:Column) (hc:c.cells.length≤1000000):Spec Tryz.prog 118 [.agg c.row] [] (.omap 6 0) [(6,.map (sumE (cntC c.cells)) (cntC c.cells).length (some []))]:=by
 have hl:=cellRows_len c.cells;refine gEn env Tryz.func118 fun Γ hN hK hML=>?_;refine gGo ?_;intros;refine W.loopG (fun n st=>∃ j:Nat,j≤c.cells.length∧n=c.cells.length-j∧st=⟨[(3,.omap 6 0),(8,.sl (cellRows c.cells) false),(9,.int .i64 (cellRows c.cells).length),(10,.int .i64 j)],[(6,[.map (sumE (cntC (c.cells.take j))) (cntC (c.cells.take j)).length (some [])])],[6]⟩)
  c.cells.length _ ⟨0,by omega,by omega,rfl⟩ gX ?_
 rintro n st ⟨j,hj,rfl,rfl⟩;refine gT (fun hb=>?_) fun hb=>?_
 ·have hlt:j<c.cells.length:=by omega
  have hg:=cellRows_get hlt;have hsn:=cntC_snoc hlt;have hlb:=cntC_bound (c.cells.take j);have hjl:(c.cells.take j).length=j:=by simp;omega
  rw [hjl] at hlb;generalize cntC (c.cells.take j)=T0 at *;generalize hT:cntC (c.cells.take (j+1))=T1 at *;generalize c.cells[j]=x at *;refine g ?_;cases hnull:x.null with
  | true =>
   have hsn:T1=T0:=by rw [hsn];unfold cntStep;rw [if_pos hnull]
   refine gGo ?_;refine ⟨_,_,?_,⟨j+1,by omega,rfl,rfl⟩,[(6,6)],[],[],LeG.mq (.cons 6 rfl rfl (.refl _) ?_ .nil)⟩
   ·omega
   ·rw [hT,hsn];rfl
  | false =>
   obtain ⟨r0,hr1,hr2⟩:=sumE_look T0 x.text;obtain ⟨r1,hq1,hq2⟩:=sumE_add T0 x.text 1;have hlb:=hlb x.text;have hsn:T1=addT T0 x.text 1:=by rw [hsn];unfold cntStep;rw [if_neg (by rw [hnull];decide)]
   refine gGo ?_;refine zok_intro (by kernel_rfl) ?_;(conv=>whnf);refine ⟨r0,hr1,?_⟩;rw [hr2];(conv=>whnf);refine gGo ?_;refine ⟨r1,hq1,?_⟩;cases r1 with
   | none =>
    (conv=>whnf);refine gGo ?_;refine ⟨_,_,?_,⟨j+1,by omega,rfl,rfl⟩,[(6,6)],[],[],LeG.mq (.cons 6 rfl rfl (.refl _) ?_ .nil)⟩
    ·omega
    ·rw [hT,hsn,←hq2.1,hq2.2];rfl
   | some p =>
    obtain ⟨jj,bb,vv⟩:=p;(conv=>whnf);refine gGo ?_;refine ⟨_,_,?_,⟨j+1,by omega,rfl,rfl⟩,[(6,6)],[],[],LeG.mq (.cons 6 rfl rfl (.refl _) ?_ .nil)⟩
    ·omega
    ·rw [hT,hsn,←hq2.1,hq2.2];rfl
 ·have hje:j=c.cells.length:=by omega
  rw [hje,List.take_length];refine gGo ?_;(refine gM ?_;conv=>whnf);exact retH rfl (.refl _) rfl rfl rfl ⟨rfl,rfl,trivial⟩
structure Ah where
 common:Int
 onlyA:Int
 mostA:Int
 mostB:Int
 lostA:Int
 lostB:Int
def ahS (T U:List (Str×Int)) (a:Ah) (j:Nat):Ah:=
 if lookT U (T.getD j ([],0)).1=0 then ⟨a.common,a.onlyA+1,a.mostA,a.mostB,a.lostA,a.lostB⟩
 else ⟨a.common+1,a.onlyA,max a.mostA (valI T j),max a.mostB (lookT U (T.getD j ([],0)).1),a.lostA-valI T j,a.lostB-lookT U (T.getD j ([],0)).1⟩
def ahL (T U:List (Str×Int)) (ra rb:Int) (l:List Nat):Ah:=l.foldl (ahS T U) ⟨0,0,0,0,ra,rb⟩
def ahM (T U:List (Str×Int)) (ra rb:Int):Ah:=ahL T U ra rb (List.range T.length)
theorem ahS_comm (T U:List (Str×Int)) (a:Ah) (i j:Nat):ahS T U (ahS T U a i) j=ahS T U (ahS T U a j) i:=by
 unfold ahS;by_cases h:lookT U (T.getD i ([],0)).1=0<;>by_cases h':lookT U (T.getD j ([],0)).1=0<;>simp only [h,h',if_true,if_false,Ah.mk.injEq,true_and,and_true];omega
theorem ahL_perm (T U:List (Str×Int)) (ra rb:Int) {l:List Nat}(h:l.Perm (List.range T.length)):ahL T U ra rb l=ahM T U ra rb:=by
 unfold ahM ahL;generalize (Ah.mk 0 0 0 0 ra rb)=a;generalize List.range T.length=l' at h
 induction h generalizing a with
 | nil=>rfl
 | cons x _ ih=>exact ih _
 | swap x y l=>simp only [List.foldl_cons];rw [ahS_comm]
 | trans _ _ ih1 ih2=>rw [ih1,ih2]
theorem ahL_snoc (T U:List (Str×Int)) (ra rb:Int) (l:List Nat) (j:Nat):ahL T U ra rb (l++[j])=ahS T U (ahL T U ra rb l) j:=by
 unfold ahL;rw [List.foldl_append];rfl
structure AhOK (a:Ah) (ra rb:Int) (n:Nat):Prop where
 c:0≤a.common∧a.common≤n
 o:0≤a.onlyA∧a.onlyA≤n
 s:a.common+a.onlyA≤n
 ma:0≤a.mostA∧a.mostA≤1000000
 mb:0≤a.mostB∧a.mostB≤1000000
 la:a.lostA≤ra∧ra-n*1000000≤a.lostA
 lb:a.lostB≤rb∧rb-n*1000000≤a.lostB
theorem ahL_bound (T U:List (Str×Int)) (ra rb:Int) (hT:∀ p∈T,0≤p.2∧p.2≤1000000) (hU:∀ p∈U,0≤p.2∧p.2≤1000000) (l:List Nat):AhOK (ahL T U ra rb l) ra rb l.length:=by
 have hv:∀ j,0≤valI T j∧valI T j≤1000000:=fun j=>by
  unfold valI;rw [List.getD_eq_getElem?_getD];cases h:T[j]? with
  | none=>simp
  | some p=>exact hT p (List.mem_of_getElem? h)
 have hw:∀ s,0≤lookT U s∧lookT U s≤1000000:=lookT_mem (by decide) hU;have:∀ (l:List Nat) (a:Ah) (n:Nat),AhOK a ra rb n→AhOK (l.foldl (ahS T U) a) ra rb (n+l.length):=by
  intro l
  induction l with
  | nil=>intro a n h;exact h
  | cons j l ih =>
   intro a n h;have hj:=hv j;have hu:=hw (T.getD j ([],0)).1;have:=ih (ahS T U a j) (n+1) (by
    obtain ⟨c,o,s,ma,mb,la,lb⟩:=h
    unfold ahS
    split
    ·exact ⟨by simp only;omega,by simp only;omega,by simp only;omega,by simp only;omega,by simp only;omega,by simp only;omega,by simp only;omega⟩
    ·exact ⟨by simp only;omega,by simp only;omega,by simp only;omega,by simp only;omega,by simp only;omega,by simp only;omega,by simp only;omega⟩)
   simp only [List.foldl_cons,List.length_cons];rw [show n+(l.length+1)=n+1+l.length by omega];exact this
 have:=this l ⟨0,0,0,0,ra,rb⟩ 0 ⟨by simp,by simp,by simp,by simp,by simp,by simp,by simp⟩;rw [Nat.zero_add] at this;exact this
def rel29L (a:Table) (i:Nat) (b:Table) (j:Nat):List Int:=
 let T:=cntC ((a.cols.map Column.cells).getD i [])
 let U:=cntC ((b.cols.map Column.cells).getD j [])
 let x:=ahM T U (rowsN a) (rowsN b)
 [a.id,i,b.id,j,x.common,x.onlyA,U.length-x.common,x.mostA,x.mostB,x.lostA,x.lostB]
def of29E (a:Table) (i:Int) (b:Table) (j:Int):List Int×Int:=
 if ¬ (validB a=true∧validB b=true) then (relZ,1) else if ¬ (0≤i∧i<a.cols.length∧0≤j∧j<b.cols.length) then (relZ,2) else (rel29L a i.toNat b j.toNat,0)
set_option maxHeartbeats 16000000 in
theorem of29_spec (a:Table) (i:Int) (b:Table) (j:Int):Spec Tryz.prog 67 [.agg a.row,.int .i64 i,.agg b.row,.int .i64 j] [] (.tup [.agg (intsV (of29E a i b j).1),.int .i64 (of29E a i b j).2]) []:=by
 have sp1:=valid3_spec a;have sp2:=valid3_spec b;have hca:=colRows_len a.cols;have hcb:=colRows_len b.cols;refine gEn env Tryz.func67 fun Γ hN hK hML=>?_;refine gGo ?_;cases ha:validB a with
 | false =>
  have he:of29E a i b j=(relZ,1):=by unfold of29E;rw [if_pos];simp [ha]
  rw [ha] at sp1;rw [he];(refine gPC (sp1) ?_;conv=>whnf);refine gGo ?_;(refine gM ?_;conv=>whnf);exact retH rfl (.norm _) rfl rfl rfl trivial
 | true =>
  rw [ha] at sp1;(refine gPC (sp1) ?_;conv=>whnf);refine gGo ?_;cases hb:validB b with
  | false =>
   have he:of29E a i b j=(relZ,1):=by unfold of29E;rw [if_pos];simp [hb]
   rw [hb] at sp2;rw [he];refine g ?_;(refine gM ?_;conv=>whnf);exact retH rfl (.norm _) rfl rfl rfl trivial
  | true =>
   rw [hb] at sp2;refine g ?_;by_cases hr:0≤i∧i<a.cols.length∧0≤j∧j<b.cols.length
   ·obtain ⟨k,rfl⟩:∃ k:Nat,i=k:=⟨i.toNat,by omega⟩
    obtain ⟨q,rfl⟩:∃ q:Nat,j=q:=⟨j.toNat,by omega⟩
    have he:of29E a k b q=(rel29L a k b q,0):=by unfold of29E;rw [if_neg (by simp [ha,hb]),if_neg (by simpa using hr)];rfl
    have hk:k<a.cols.length:=by omega
    have hq:q<b.cols.length:=by omega
    have hva:=validB_rows ha;have hvb:=validB_rows hb;have hxa:=colRows_get hk;have hxb:=colRows_get hq;have lA:=hva.2 _ (List.getElem_mem hk);have lB:=hvb.2 _ (List.getElem_mem hq);have sp3:=counts29_spec a.cols[k] (by omega);have sp4:=counts29_spec b.cols[q] (by omega);have mA:=cntC_mems a.cols[k].cells;have mB:=cntC_mems b.cols[q].cells;have sp5:=rows3_spec a;have sp6:=rows3_spec b;have hL:rel29L a k b q=[a.id,k,b.id,q,(ahM (cntC a.cols[k].cells) (cntC b.cols[q].cells) (rowsN a) (rowsN b)).common,(ahM (cntC a.cols[k].cells) (cntC b.cols[q].cells) (rowsN a) (rowsN b)).onlyA,(cntC b.cols[q].cells).length-(ahM (cntC a.cols[k].cells) (cntC b.cols[q].cells) (rowsN a) (rowsN b)).common,(ahM (cntC a.cols[k].cells) (cntC b.cols[q].cells) (rowsN a) (rowsN b)).mostA,(ahM (cntC a.cols[k].cells) (cntC b.cols[q].cells) (rowsN a) (rowsN b)).mostB,(ahM (cntC a.cols[k].cells) (cntC b.cols[q].cells) (rowsN a) (rowsN b)).lostA,(ahM (cntC a.cols[k].cells) (cntC b.cols[q].cells) (rowsN a) (rowsN b)).lostB]:=by
     simp [rel29L,hk,hq]
    have hbd:=ahL_bound (cntC a.cols[k].cells) (cntC b.cols[q].cells) (rowsN a) (rowsN b) (fun p hp=>by have:=mA.1 p hp;omega) (fun p hp=>by have:=mB.1 p hp;omega);have hperm:=@ahL_perm (cntC a.cols[k].cells) (cntC b.cols[q].cells) (rowsN a) (rowsN b);have hsnoc:=ahL_snoc (cntC a.cols[k].cells) (cntC b.cols[q].cells) (rowsN a) (rowsN b);have hval:∀ p∈cntC a.cols[k].cells,0≤p.2∧p.2≤1000000:=fun p hp=>by have:=mA.1 p hp;omega
    have hvalU:∀ s,0≤lookT (cntC b.cols[q].cells) s∧lookT (cntC b.cols[q].cells) s≤1000000:=lookT_mem (by decide) (fun p hp=>by have:=mB.1 p hp;omega);rw [he,hL];have mA2:=mA.2;have mB2:=mB.2;clear mA mB hL he;generalize cntC a.cols[k].cells=TA at *;generalize cntC b.cols[q].cells=TB at *;generalize hcolA:a.cols[k]=ca at *;generalize hcolB:b.cols[q]=cb at *;(refine g ?_;intros);(refine gCA [] [(6,50)] [] (sp3) ?_;conv=>whnf);refine g ?_;(refine gCA [] [(6,56)] [] (sp4) ?_;conv=>whnf);refine gGo ?_;(refine gPC (sp5) ?_;conv=>whnf);refine gGo ?_;(refine gPC (sp6) ?_;conv=>whnf);refine gGo ?_;refine W.leG (mp:=[(4,4),(6,6),(8,8),(50,50),(56,56),(12,12),(74,74)]) (bo:=[]) (st':=⟨[(4,.bp 4 0),(6,.bp 6 0),(8,.bp 8 0),(10,.omap 50 0),(11,.omap 56 0),(12,.bp 12 0),(74,.bp 74 0)],[(4,[.rows 3 [a.row] none]),(6,[.rows 3 [b.row] none]),(8,[.rows 11 [intsV relZ] none]),(50,[.map (sumE TA) TA.length (some [])]),(56,[.map (sumE TB) TB.length (some [])]),(12,[.rows 11 [[.int .i64 a.id,.int .i64 k,.int .i64 b.id,.int .i64 q,.int .i64 (ahL TA TB (rowsN a) (rowsN b) []).common,.int .i64 (ahL TA TB (rowsN a) (rowsN b) []).onlyA,.int .i64 0,.int .i64 (ahL TA TB (rowsN a) (rowsN b) []).mostA,.int .i64 (ahL TA TB (rowsN a) (rowsN b) []).mostB,.int .i64 (ahL TA TB (rowsN a) (rowsN b) []).lostA,.int .i64 (ahL TA TB (rowsN a) (rowsN b) []).lostB]] none]),(74,[.iter 50 0 TA.length []])],[4,6,8,50,56,12,74]⟩)
     (LeG.mq (.ci 4 (.ci 6 (.ci 8 (.ci 50 (.ci 56 (.ci 12 (.ci 74 .nil)))))))) ?_
    have hAl:=sumE_len TA;have hBl:=sumE_len TB;refine W.loopG (fun n st=>∃ seen:List Nat,Seen TA.length seen∧n=TA.length-seen.length∧st=⟨[(4,.bp 4 0),(6,.bp 6 0),(8,.bp 8 0),(10,.omap 50 0),(11,.omap 56 0),(12,.bp 12 0),(74,.bp 74 0)],[(4,[.rows 3 [a.row] none]),(6,[.rows 3 [b.row] none]),(8,[.rows 11 [intsV relZ] none]),(50,[.map (sumE TA) TA.length (some [])]),(56,[.map (sumE TB) TB.length (some [])]),(12,[.rows 11 [[.int .i64 a.id,.int .i64 k,.int .i64 b.id,.int .i64 q,.int .i64 (ahL TA TB (rowsN a) (rowsN b) seen).common,.int .i64 (ahL TA TB (rowsN a) (rowsN b) seen).onlyA,.int .i64 0,.int .i64 (ahL TA TB (rowsN a) (rowsN b) seen).mostA,.int .i64 (ahL TA TB (rowsN a) (rowsN b) seen).mostB,.int .i64 (ahL TA TB (rowsN a) (rowsN b) seen).lostA,.int .i64 (ahL TA TB (rowsN a) (rowsN b) seen).lostB]] none]),(74,[.iter 50 0 TA.length seen])],[4,6,8,50,56,12,74]⟩)
     TA.length _ ⟨[],Seen.nil _,by simp,rfl⟩ gX ?_
    rintro n st ⟨seen,hs,rfl,rfl⟩;refine gA ?_;have hbs:=hbd seen;have hsl:=hs.len;refine W.nextMap env hN rfl rfl rfl (by kernel_rfl) rfl rfl rfl (fun hD=>?_) (fun j0 j kk v hj hb=>?_)
    ·have hall:∀ i,i<TA.length→i∈seen:=fun i hi=>hD i i _ _ (sumE_at hi);have hp:=hperm (hs.perm hall);rw [hp] at hbs ⊢;generalize ahM TA TB (rowsN a) (rowsN b)=x at *;obtain ⟨c1,c2,c3,c4,c5,c6,c7⟩:=hbs;(conv=>whnf);refine gGo ?_;(refine gM ?_;conv=>whnf);rw [hBl];exact retH rfl (.norm _) rfl rfl rfl trivial
    ·obtain ⟨hjl,rfl,rfl,rfl⟩:=sumE_get hj;have hsn:=hsnoc seen j;have hs':=hs.snoc hjl hb;have hlen:=hs'.len;simp only [List.length_append,List.length_cons,List.length_nil] at hlen;have hget:TA.getD j ([],0)=TA[j]:=by simp [hjl]
     have hvb:=hval _ (List.getElem_mem hjl);have hub:=hvalU TA[j].1;have hat:=sumE_at hjl;have hbs':=hbd (seen++[j]);obtain ⟨r0,hr1,hr2⟩:=sumE_look TB TA[j].1;rw [hsn] at hbs';unfold ahS valI at hsn hbs';rw [hget] at hsn hbs';generalize ahL TA TB (rowsN a) (rowsN b) seen=x at *;obtain ⟨c1,c2,c3,c4,c5,c6,c7⟩:=hbs;(conv=>whnf);refine gGo ?_;refine ⟨seen,j,j,.str _,.int .i64 _,rfl,hat,rfl,?_⟩;(conv=>whnf);refine gGo ?_;refine zok_intro (by kernel_rfl) ?_;(conv=>whnf);refine ⟨r0,hr1,?_⟩;rw [hr2];(conv=>whnf);refine gT (fun hb=>?_) fun hb=>?_
     ·rw [if_pos hb] at hsn hbs';refine gGo ?_;refine ⟨_,_,?_,⟨seen++[j],hs',rfl,rfl⟩,[(4,4),(6,6),(8,8),(50,50),(56,56),(12,12),(74,74)],[],[],LeG.mq (.ci 4 (.ci 6 (.ci 8 (.ci 50 (.ci 56 (.cons 12 rfl rfl (.refl _) (by rw [hsn];rfl) (.ci 74 .nil)))))))⟩;simp;omega
     ·rw [if_neg hb] at hsn hbs';refine gGo ?_;refine ⟨_,_,?_,⟨seen++[j],hs',rfl,rfl⟩,[(4,4),(6,6),(8,8),(50,50),(56,56),(12,12),(74,74)],[],[],LeG.mq (.ci 4 (.ci 6 (.ci 8 (.ci 50 (.ci 56 (.cons 12 rfl rfl (.refl _) (by rw [hsn];rfl) (.ci 74 .nil)))))))⟩;simp;omega
   ·have he:of29E a i b j=(relZ,2):=by unfold of29E;rw [if_neg (by simp [ha,hb]),if_pos hr]
    rw [he];by_cases h1:i<0
    ·refine gGo ?_;(refine gM ?_;conv=>whnf);exact retH rfl (.norm _) rfl rfl rfl trivial
    by_cases h2:i<a.cols.length
    ·by_cases h3:j<0
     ·refine gGo ?_;intros;(refine gM ?_;conv=>whnf);exact retH rfl (.norm _) rfl rfl rfl trivial
     ·refine gGo ?_;intros;(refine gM ?_;conv=>whnf);exact retH rfl (.norm _) rfl rfl rfl trivial
    ·refine gGo ?_;intros;(refine gM ?_;conv=>whnf);exact retH rfl (.norm _) rfl rfl rfl trivial
end Go.Sx.Sp
