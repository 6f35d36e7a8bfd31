/- Families of blocks, code whose end is told in the words of the model, and maps whose keys are arrays or structs. -/
import Derived.Test.YthlokmbefpjmgaaGreatDoorSxFour
import Derived.RangeFuncLeaves
import Derived.Test.YthlokmbefpjmgaaGreatDoorSxTwo
import Derived.Test.YthlokmbefpjmgaaGreatDoorSxOne
set_option linter.unusedVariables false
set_option linter.unusedSimpArgs false
namespace Go.Sx
open Go
def famL (n:Nat) (f:Nat→Blk):List Blk:=(List.range n).map f
theorem famL_len (n:Nat) (f:Nat→Blk):(famL n f).length=n:=by simp [famL]
theorem famL_get {n:Nat}{f:Nat→Blk}{i:Nat}(h:i<n):(famL n f)[i]?=some (f i):=by simp [famL,h]
theorem famL_iff {n:Nat}{f:Nat→Blk}{i:Nat}{b:Blk}:(famL n f)[i]?=some b↔i<n∧b=f i:=by
 rcases Nat.lt_or_ge i n with h | h
 ·rw [famL_get h];simp [h,eq_comm]
 ·rw [List.getElem?_eq_none (by rw [famL_len];exact h)];simp;omega
theorem famL_congr {n:Nat}{f g:Nat→Blk}(h:∀ i,i<n→f i=g i):famL n f=famL n g:=by
 unfold famL;exact List.map_congr_left fun i hi=>h i (List.mem_range.1 hi)
theorem famL_set {n:Nat}{f:Nat→Blk}{i:Nat}{b:Blk}:(famL n f).set i b=famL n (fun j=>if j=i then b else f j):=by
 refine List.ext_getElem? fun j=>?_;rw [List.getElem?_set];by_cases hj:i=j
 ·subst hj;simp only [if_true,famL_len];split
  ·rename_i h;rw [famL_get h];simp
  ·rename_i h;rw [List.getElem?_eq_none (by rw [famL_len];omega)]
 ·rw [if_neg hj];rcases Nat.lt_or_ge j n with h | h
  ·rw [famL_get h,famL_get h,if_neg (Ne.symm hj)]
  ·rw [List.getElem?_eq_none (by rw [famL_len];exact h),List.getElem?_eq_none (by rw [famL_len];exact h)]
theorem famL_famB {n:Nat}{f:Nat→Blk}(h:∀ i,i<n→(f i).famB=true):∀ b∈famL n f,b.famB=true:=fun b hb=>by
 unfold famL at hb;obtain ⟨i,hi,rfl⟩:=List.mem_map.1 hb;exact h i (List.mem_range.1 hi)
section
variable {P:Program}{T:List (Nat×TI)}{Γ:Ctx}{Q:Exit→St→Prop}{st:St}
theorem Ref.reserve [Glob] (F n sz:Nat) (hF:memB F st.used=false):Ref Γ st ⟨st.env,(F,famL n fun _=>.rows sz [] (some []))::st.heap,F::st.used⟩:=by
 intro m a w hr;have hd':st.den.used F=false:=hF
 let m':MM:=fun k i=>if k=F then (if i<n then some ⟨0,0,sz,0,true⟩ else none) else m k i
 have hne:∀ k,st.den.used k=true→k≠F:=fun k hk e=>by rw [e,hd'] at hk;cases hk
 have hm:∀ k,k≠F→∀ i,m' k i=m k i:=fun k hk i=>by simp only [m',hk,if_false]
 have hmF:∀ i x,m' F i=some x→i<n∧x=⟨0,0,sz,0,true⟩:=fun i x hx=>by
  simp only [m',if_true] at hx;split at hx
  ·rename_i h;cases hx;exact ⟨h,rfl⟩
  ·cases hx
 have hnn:∀ k i x,m' k i=some x→x.nil=false→m k i=some x:=fun k i x hx hn=>by
  by_cases hk:k=F
  ·subst hk;obtain ⟨_,rfl⟩:=hmF i x hx;cases hn
  ·rw [hm k hk] at hx;exact hx
 have hO:∀ b,Own m' b→Own m b:=fun b ⟨k,i,x,hx,hn,hb⟩=>⟨k,i,x,hnn k i x hx hn,hn,hb⟩
 have hH:∀ k,lookH ((F,famL n fun _=>.rows sz [] (some []))::st.heap) k=if k=F then famL n fun _=>.rows sz [] (some []) else lookH st.heap k:=fun k=>by
  unfold lookH;rw [look_cons];by_cases hk:k=F<;>simp [hk]
 refine ⟨m',hr.change (s':=St.den ⟨st.env,(F,famL n fun _=>.rows sz [] (some []))::st.heap,F::st.used⟩) (fun _ _ _=>rfl) (Nat.le_refl _) (fun _ _ _ h=>h) rfl ⟨rfl,fun _=>Nat.le_refl _⟩ rfl (fun k hk i x' hx'=>⟨x',by rw [hm k (hne k hk)] at hx';exact hx',.inl rfl⟩) (fun b _ hb=>hO b hb) rfl (fun k hk=>?_) (fun k i=>?_) (fun k i blk hb=>?_)
  (fun k i x k' i' x' hx hx' hn hn' hb=>hr.inj k i x k' i' x' (hnn _ _ _ hx hn) (hnn _ _ _ hx' hn') hn hn' hb) (fun k i x hx hn=>hr.fr k i x (hnn _ _ _ hx hn) hn) (fun k hk i x hx=>?_) (fun k hk=>?_) (fun k i blk hb=>?_)⟩
 ·simp only [St.den] at hk ⊢;exact memB_of (List.mem_cons_of_mem _ (memB_true hk))
 ·simp only [St.den,hH];by_cases hk:k=F
  ·subst hk;simp only [m',if_true,famL_len];by_cases hi:i<n<;>simp [hi]
  ·rw [if_neg hk,hm k hk];exact hr.dom k i
 ·simp only [St.den,hH] at hb;by_cases hk:k=F
  ·subst hk;rw [if_pos rfl,famL_iff] at hb;obtain ⟨hi,rfl⟩:=hb;exact ⟨⟨0,0,sz,0,true⟩,by simp [m',hi],.inr ⟨rfl,rfl,by simp,fun _=>rfl,fun h=>(by cases h),by simp⟩⟩
  ·rw [if_neg hk] at hb;obtain ⟨x,hx,_⟩:=hr.heap k i blk hb;exact ⟨x,by rw [hm k hk];exact hx,.inl ⟨hb,hx,fun _=>rfl⟩⟩
 ·have:=hne k (hr.useK k hk);rw [hm k this] at hx;exact hr.keep k hk i x hx
 ·simp only [St.den,hH] at hk ⊢;by_cases hkF:k=F
  ·subst hkF;exact memB_of (by simp)
  ·rw [if_neg hkF] at hk;exact memB_of (List.mem_cons_of_mem _ (memB_true (hr.useH k hk)))
 ·simp only [St.den,hH] at hb;by_cases hk:k=F
  ·subst hk;rw [if_pos rfl,famL_iff] at hb;obtain ⟨hi,rfl⟩:=hb;exact famWithin rfl
  ·rw [if_neg hk] at hb;exact Blk.within_mono (fun q hq=>memB_of (List.mem_cons_of_mem _ (memB_true hq))) (hr.useB k i blk hb)
inductive NilAs (H:Nat→List Blk):V→V→Prop
 | same (v:V):NilAs H v v
 | nil (v:V) (F i sz:Nat) (ks:Option (List Nat)):isNilV v=true→(H F)[i]?=some (.rows sz [] ks)→NilAs H v (.osl F i 0 0 0)
theorem Ref.recell [Glob] (k:Nat) {sz:Nat}{rows:List (List V)}(rows1:List (List V)) {ks:Option (List Nat)}(ks1:Option (List Nat)) (hk:lookH st.heap k=[.rows sz rows ks]) (hlen:rows.length=rows1.length)
  (h:∀ (i:Nat) r1,rows1[i]?=some r1→∃ r,rows[i]?=some r∧r.length=r1.length∧∀ (j:Nat) v1,r1[j]?=some v1→∃ v,r[j]?=some v∧NilAs (lookH st.heap) v v1∧∀ l,ks1=some l→∀ s∈v1.sites,s∈l)
  (hu:∀ l,ks1=some l→∀ q∈l,memB q st.used=true):Ref Γ st ⟨st.env,(k,[.rows sz rows1 ks1])::st.heap,st.used⟩:=by
 intro m a w hrel;have hbl:(st.den.heap k)[0]?=some (.rows sz rows ks):=by simp [St.den,hk]
 obtain ⟨x,hx,hB⟩:=hrel.heap k 0 _ hbl;have hB:RowsOK w (Forb Γ m) m x sz rows ks:=hB;have hwi:=hrel.useB k 0 _ hbl;have hB2:RowsOK w (Forb Γ m) m x sz rows1 ks1:=by
  refine ⟨hB.hsz,by rw [←hlen];exact hB.hn,fun i r1 hi=>?_,fun hn=>?_,fun hn=>by rw [←hlen];exact hB.blk hn,fun i r1 j v1 hi hj=>?_⟩
  ·obtain ⟨r,h1,h2,_⟩:=h i r1 hi;rw [←h2];exact hB.len i r h1
  ·have:=hB.nil hn;rw [this] at hlen;exact List.length_eq_zero_iff.1 hlen.symm
  ·obtain ⟨r,h1,_,h2⟩:=h i r1 hi;obtain ⟨v,h3,h4,h5⟩:=h2 j v1 hj;obtain ⟨g1,g2,c,g3,g4,g5⟩:=hB.cell i r j v h1 h3;cases h4 with
   | same=>exact ⟨g1,h5,c,g3,g4,g5⟩
   | nil F q sz2 ks2 h6 h7 =>
    refine ⟨rfl,h5,c,g3,g4,?_⟩;obtain ⟨y,hy,hBy⟩:=hrel.heap F q _ h7;have hBy:RowsOK w (Forb Γ m) m y sz2 [] ks2:=hBy;have hn:y.n=0:=hBy.hn;obtain ⟨ad,rfl⟩:=isNilV_rel g5 h6;refine .osl _ _ _ _ _ _ ⟨_,_,_,rfl⟩ fun z hz=>?_;rw [hy] at hz;cases hz;exact ⟨Nat.zero_le _,fun _=>⟨by omega,.inl ⟨rfl,_,rfl⟩⟩⟩
 have h3:=hrel.at k 0 hbl hx x (.rows sz rows1 ks1) (.inl rfl) (w':=w) (fun _ _ _=>rfl) (Nat.le_refl _) (fun _ _ _ h=>h) rfl ⟨rfl,fun _=>Nat.le_refl _⟩ rfl (fun hn=>.inl ⟨hn,rfl⟩) (by
  cases ks1 with
  | some l=>exact fun q hq=>hu l rfl q hq
  | none =>
   intro i r1 j v1 hi hj q hq
   obtain ⟨r,h1,_,h2⟩:=h i r1 hi
   obtain ⟨v,h3,h4,h5⟩:=h2 j v1 hj
   cases h4 with
   | same =>
    obtain ⟨_,g2,_⟩:=hB.cell i r j v1 h1 h3
    cases ks with
    | none=>exact hwi i r j v1 h1 h3 q hq
    | some l=>exact hwi q (g2 l rfl q hq)
   | nil F p sz2 ks2 h6 h7 =>
    simp [V.sites] at hq;subst hq
    refine hrel.useH q ?_
    show lookH st.heap q≠[]
    intro e;rw [e] at h7;simp at h7) (by rw [MM.at_self hx];exact hB2)
 refine ⟨MM.at m k 0 x,?_⟩;have e:St.den ⟨st.env,(k,[.rows sz rows1 ks1])::st.heap,st.used⟩=st.den.at k 0 (.rows sz rows1 ks1):=by
  have h4:=St.den_ups [.upd k 0 (.rows sz rows1 ks1)] st;simp only [St.ups,ASt.ups,List.foldl_cons,List.foldl_nil,ASt.up] at h4;rw [←h4,hk];rfl
 rw [e];exact h3
end
mutual
def V.gat (d F n:Nat):V→V
 | .bp s o=>if s=d∨s=F then .dead else .bp s o
 | .pel s i r o k=>if s=d then (if i=0 then .pel F n r o k else .dead) else if s=F then (if i<n then .pel F i r o k else .dead) else .pel s i r o k
 | .osl s i o l k=>if s=d then (if i=0 then .osl F n o l k else .dead) else if s=F then (if i<n then .osl F i o l k else .dead) else .osl s i o l k
 | .oslc s i o l k c=>if s=d then (if i=0 then .oslc F n o l k c else .dead) else if s=F then (if i<n then .oslc F i o l k c else .dead) else .oslc s i o l k c
 | .omap s i=>if s=d then (if i=0 then .omap F n else .dead) else if s=F then (if i<n then .omap F i else .dead) else .omap s i
 | .agg cs=>.agg (gatL d F n cs)
 | .tup vs=>.tup (gatL d F n vs)
 | .fn f caps=>.fn f (gatL d F n caps)
 | .iface t v=>.iface t (v.gat d F n)
 | .nils=>.nils
 | .dead=>.dead
 | .bool b=>.bool b
 | .int k n=>.int k n
 | .str s=>.str s
 | .nilp=>.nilp
 | .ro row o=>.ro row o
 | .sl rows full=>.sl rows full
 | .nilf=>.nilf
 | .nili=>.nili
 | .nilm=>.nilm
 | .sle=>.sle
 | .dmap rows=>.dmap rows
def gatL (d F n:Nat):List V→List V
 | []=>[]
 | v::vs=>v.gat d F n::gatL d F n vs
end
theorem gatL_eq (d F n:Nat) (l:List V):gatL d F n l=l.map (V.gat d F n):=by
 induction l with
 | nil=>simp [gatL]
 | cons v l ih=>simp [gatL,ih]
theorem V.one_gat {d F n:Nat}{v:V}(h:v.one=true):(v.gat d F n).one=true:=by
 cases v<;>simp only [V.gat]<;>(try (repeat' split))<;>first | rfl | (simp [V.one] at h)
mutual
theorem V.gat_pure {d F n:Nat}:(v:V)→v.sites=[]→v.gat d F n=v
 | .bp s o,h=>by simp [V.sites] at h
 | .pel s i r o k,h=>by simp [V.sites] at h
 | .osl s i o l k,h=>by simp [V.sites] at h
 | .oslc s i o l k c,h=>by simp [V.sites] at h
 | .omap s i,h=>by simp [V.sites] at h
 | .agg cs,h=>by simp only [V.gat,gatL_pure cs (by simpa [V.sites] using h)]
 | .tup cs,h=>by simp only [V.gat,gatL_pure cs (by simpa [V.sites] using h)]
 | .fn f cs,h=>by simp only [V.gat,gatL_pure cs (by simpa [V.sites] using h)]
 | .iface t v,h=>by simp only [V.gat,V.gat_pure v (by simpa [V.sites] using h)]
 | .nils,_=>by simp [V.gat]
 | .dead,_=>by simp [V.gat]
 | .bool _,_=>by simp [V.gat]
 | .int _ _,_=>by simp [V.gat]
 | .str _,_=>by simp [V.gat]
 | .nilp,_=>by simp [V.gat]
 | .ro _ _,_=>by simp [V.gat]
 | .sl _ _,_=>by simp [V.gat]
 | .nilf,_=>by simp [V.gat]
 | .nili,_=>by simp [V.gat]
 | .nilm,_=>by simp [V.gat]
 | .sle,_=>by simp [V.gat]
 | .dmap _,_=>by simp [V.gat]
theorem gatL_pure {d F n:Nat}:(l:List V)→sitesL l=[]→gatL d F n l=l
 | [],_=>by simp [gatL]
 | v::vs,h=>by
  simp only [sitesL,List.append_eq_nil_iff] at h;simp only [gatL];rw [V.gat_pure v h.1,gatL_pure vs h.2]
end
mutual
theorem gat_sites {d F n:Nat}:(v:V)→∀ s∈(v.gat d F n).sites,s=F∨s∈v.sites
 | .bp s o,u,h=>by
  simp only [V.gat] at h;split at h
  ·simp [V.sites] at h
  ·exact .inr h
 | .pel s i r o k,u,h=>by
  simp only [V.gat] at h
  repeat' split at h
  all_goals (first | (simp [V.sites] at h;done) | (simp [V.sites] at h;exact .inl h) | exact .inr h)
 | .osl s i o l k,u,h=>by
  simp only [V.gat] at h
  repeat' split at h
  all_goals (first | (simp [V.sites] at h;done) | (simp [V.sites] at h;exact .inl h) | exact .inr h)
 | .oslc s i o l k c,u,h=>by
  simp only [V.gat] at h
  repeat' split at h
  all_goals (first | (simp [V.sites] at h;done) | (simp [V.sites] at h;exact .inl h) | exact .inr h)
 | .omap s i,u,h=>by
  simp only [V.gat] at h
  repeat' split at h
  all_goals (first | (simp [V.sites] at h;done) | (simp [V.sites] at h;exact .inl h) | exact .inr h)
 | .agg cs,u,h=>by simp only [V.gat,V.sites] at h ⊢;exact gatL_sites cs u h
 | .tup cs,u,h=>by simp only [V.gat,V.sites] at h ⊢;exact gatL_sites cs u h
 | .fn f cs,u,h=>by simp only [V.gat,V.sites] at h ⊢;exact gatL_sites cs u h
 | .iface t v,u,h=>by simp only [V.gat,V.sites] at h ⊢;exact gat_sites v u h
 | .nils,u,h=>by simp [V.gat,V.sites] at h
 | .dead,u,h=>by simp [V.gat,V.sites] at h
 | .bool _,u,h=>by simp [V.gat,V.sites] at h
 | .int _ _,u,h=>by simp [V.gat,V.sites] at h
 | .str _,u,h=>by simp [V.gat,V.sites] at h
 | .nilp,u,h=>by simp [V.gat,V.sites] at h
 | .ro _ _,u,h=>by simp [V.gat,V.sites] at h
 | .sl _ _,u,h=>by simp [V.gat,V.sites] at h
 | .nilf,u,h=>by simp [V.gat,V.sites] at h
 | .nili,u,h=>by simp [V.gat,V.sites] at h
 | .nilm,u,h=>by simp [V.gat,V.sites] at h
 | .sle,u,h=>by simp [V.gat,V.sites] at h
 | .dmap _,u,h=>by simp [V.gat,V.sites] at h
theorem gatL_sites {d F n:Nat}:(l:List V)→∀ s∈sitesL (gatL d F n l),s=F∨s∈sitesL l
 | [],u,h=>by simp [gatL,sitesL] at h
 | v::vs,u,h=>by
  simp only [gatL,sitesL,List.mem_append] at h;rcases h with h | h
  ·exact (gat_sites v u h).imp id fun h=>by simp [sitesL,h]
  ·exact (gatL_sites vs u h).imp id fun h=>by simp [sitesL,h]
end
def MM.gat (m:MM) (d F n:Nat):MM:=fun k i=>if k=d then none else if k=F then (if i=n then m d 0 else if i<n then m F i else none) else m k i
theorem VRel.gat {w:World}{G:Nat→Prop}{m:MM}{d F n:Nat}(hdF:d≠F) {v:V}{c:Value}(h:VRel w G m v c):VRel w G (m.gat d F n) (v.gat d F n) c:=by
 have e1:∀ k i,k≠d→k≠F→m.gat d F n k i=m k i:=fun k i h1 h2=>by simp [MM.gat,h1,h2]
 have e2:m.gat d F n F n=m d 0:=by simp [MM.gat,Ne.symm hdF]
 have e3:∀ i,i<n→m.gat d F n F i=m F i:=fun i hi=>by simp [MM.gat,Ne.symm hdF,hi,Nat.ne_of_lt hi]
 have key:∀ {s i s' i':Nat},((s=d∧i=0∧s'=F∧i'=n)∨(s≠d∧s=F∧i<n∧s'=s∧i'=i)∨(s≠d∧s≠F∧s'=s∧i'=i))→m.gat d F n s' i'=m s i:=fun {s i s' i'} hc=>by
  rcases hc with ⟨rfl,rfl,rfl,rfl⟩ | ⟨h1,rfl,h2,rfl,rfl⟩ | ⟨h1,h2,rfl,rfl⟩
  ·exact e2
  ·exact e3 _ h2
  ·exact e1 _ _ h1 h2
 induction h with
 | dead c=>simp only [V.gat];exact .dead c
 | bool b=>simp only [V.gat];exact .bool b
 | int k n=>simp only [V.gat];exact .int k n
 | str s h=>simp only [V.gat];exact .str s h
 | nilp=>simp only [V.gat];exact .nilp
 | bp s o c hc h =>
  simp only [V.gat];split
  ·exact .dead c
  ·rename_i hs;have hs1:s≠d:=fun e=>hs (.inl e);have hs2:s≠F:=fun e=>hs (.inr e);exact .bp s o c hc fun x hx=>h x (by rw [e1 s 0 hs1 hs2] at hx;exact hx)
 | pel s i r o k c hc h =>
  simp only [V.gat]
  repeat' split
  all_goals (first | exact .dead c | (refine .pel _ _ _ _ _ c hc fun x hx=>h x ?_;rw [←hx];exact (key (by simp_all)).symm))
 | osl s i o l k c hc h =>
  simp only [V.gat]
  repeat' split
  all_goals (first | exact .dead c | (refine .osl _ _ _ _ _ c hc fun x hx=>h x ?_;rw [←hx];exact (key (by simp_all)).symm))
 | oslc s i o l k cap c hc h =>
  simp only [V.gat]
  repeat' split
  all_goals (first | exact .dead c | (refine .oslc _ _ _ _ _ _ c hc fun x hx=>h x ?_;rw [←hx];exact (key (by simp_all)).symm))
 | omap s i c hc h =>
  simp only [V.gat]
  repeat' split
  all_goals (first | exact .dead c | (refine .omap _ _ c hc fun x hx=>h x ?_;rw [←hx];exact (key (by simp_all)).symm))
 | ro row o b base c hF hb ho hdd h1 ho1 hc hv ih =>
  simp only [V.gat];refine .ro row o b base c hF hb ho hdd h1 ho1 hc fun j v hj=>?_;have:=ih j v hj
  rwa [V.gat_pure v (hdd j v hj)] at this
 | nilsl full a=>simp only [V.gat];exact .nilsl full a
 | sl rows full sz b base cap c hF hl hmx hf hz' hdd h1 ho1 hc hv ih =>
  simp only [V.gat];refine .sl rows full sz b base cap c hF hl hmx hf hz' hdd h1 ho1 hc fun i r j v hi hj=>?_;have:=ih i r j v hi hj
  rwa [V.gat_pure v (hdd i r j v hi hj)] at this
 | nils=>simp only [V.gat];exact .nils
 | agg cs c hl ho h1 hv ih =>
  simp only [V.gat,gatL_eq];refine .agg _ c (by simpa using hl) ho (fun j v hj=>?_) (fun j v x hj hx=>?_)
  ·simp only [List.getElem?_map,Option.map_eq_some_iff] at hj;obtain ⟨u,hu,rfl⟩:=hj;exact V.one_gat (h1 j u hu)
  ·simp only [List.getElem?_map,Option.map_eq_some_iff] at hj;obtain ⟨u,hu,rfl⟩:=hj;exact ih j u x hu hx
 | tup cs c hl hv ih =>
  simp only [V.gat,gatL_eq];refine .tup _ c (by simpa using hl) (fun j v x hj hx=>?_);simp only [List.getElem?_map,Option.map_eq_some_iff] at hj;obtain ⟨u,hu,rfl⟩:=hj;exact ih j u x hu hx
 | fn f cs c hl hv ih =>
  simp only [V.gat,gatL_eq];refine .fn f _ c (by simpa using hl) (fun j v x hj hx=>?_);simp only [List.getElem?_map,Option.map_eq_some_iff] at hj;obtain ⟨u,hu,rfl⟩:=hj;exact ih j u x hu hx
 | nilf=>simp only [V.gat];exact .nilf
 | iface t v c h ih=>simp only [V.gat];exact .iface t _ c ih
 | nili=>simp only [V.gat];exact .nili
 | nilm=>simp only [V.gat];exact .nilm
 | sle a cap h=>simp only [V.gat];exact .sle a cap h
 | dmap rows b clock ents c hF hh hs' hdd hc hv ih =>
  simp only [V.gat];refine .dmap rows b clock ents c hF hh hs' hdd hc fun i r j v hi hj=>?_;have:=ih i r j v hi hj
  rwa [V.gat_pure v (hdd i r j v hi hj)] at this
end Go.Sx
namespace Go.Sx
open Go
structure Wr [Glob] (P:Program) (T:List (Nat×TI)) (Γ:Ctx) (c:Code) (R:Exit→Act→World→Prop) (st:St):Prop where
 out:∀ m a w,Rel Γ m st.den a w→c.wp P R a w
def noQ:Exit→St→Prop:=fun _ _=>False
section
variable {P:Program}{T:List (Nat×TI)}{Γ:Ctx}{R:Exit→Act→World→Prop}{st:St}
theorem Wr.seq [Glob] {x y:Code}(h:W P T Γ x (thenQ (fun s=>Wr P T Γ y R s) noQ) st):Wr P T Γ (.seq x y) R st:=
 ⟨fun m a w hr=>wp_seq (wp_mono (h.out m a w hr) fun e a' w' ⟨s',m',h1,h2⟩=>by
  cases e<;>first
   | exact h1.out m' a' w' h2
   | exact h1.elim)⟩
theorem Wr.assoc [Glob] {x y z:Code}(h:W P T Γ x (thenQ (fun s=>∀ m a w,Rel Γ m s.den a w→y.wp P (Exit.then (z.wp P R) R) a w) noQ) st):Wr P T Γ (.seq (.seq x y) z) R st:=
 ⟨fun m a w hr=>wp_seq (wp_seq (wp_mono (h.out m a w hr) fun e a' w' ⟨s',m',h1,h2⟩=>by
  cases e<;>first
   | exact h1 m' a' w' h2
   | exact h1.elim))⟩
theorem Wr.leG [Glob] {c:Code}{st':St}{mp:List (Nat×Nat)}{bo gs:List Nat}(hl:LeG Γ.K0 mp bo gs st st') (h:Wr P T Γ c R st'):Wr P T Γ c R st:=
 ⟨fun m a w hr=>let ⟨m',hr'⟩:=hr.leG hl;h.out m' a w hr'⟩
def EndR [Glob] (Γ:Ctx) (v:V) (hout:List (Nat×Blk)):Ending→World→Prop:=fun e w' =>
 ∃ cv m',e=.returned cv∧VRel w' (FrO Γ.Fr m') m' v cv∧HRel Γ.Fr m' hout w'∧(∀ k i x,m' k i=some x→x.nil=false→Γ.w0.heap.size≤x.b)∧Ext (fun _=>False) Γ.w0 w'
theorem Spec.bodyM [Glob] {f:Nat}{fn:Func}{c:Code}(hf:P.funcs[f]?=some fn) (hb:fn.body=some c) (hname:(fn.name == "runtime.NumGoroutine")=false)
  {args:List V}{v:V}{hout:List (Nat×Blk)}(hN:args.length≤fn.ntmps)
  (hw:∀ Γ:Ctx,Γ.N=fn.ntmps→Γ.K0=[]→(∀ b,¬ Γ.H0 b)→(∀ b,Γ.Fr b→b<Γ.w0.heap.size)→Wr P T Γ c (bodyPostM Fence.wide 5 P fn (EndR Γ v hout)) ⟨envFrom 0 args,[],[]⟩):Spec P f args [] v hout:=by
 have hname':¬ fn.name="runtime.NumGoroutine":=by simpa using hname
 refine ⟨fun cargs w=>by simp [callFunc,hf,hname',hb],fun Fr m w cargs hl hFr hH hv hs=>?_⟩;have hm:∀ k i,m k i=none:=fun k i=>by
  have:=hH.dom k i;simp only [lookH_heapL] at this;cases h:m k i with
  | none=>rfl
  | some x=>rw [h] at this;simp [look] at this
 have hO:∀ b,¬ Own m b:=fun b ⟨k,i,x,hx,_⟩=>by rw [hm] at hx;cases hx
 let Γ:Ctx:=⟨w,Own m,Fr,m,[],(fn.ntmps:Nat),fun _=>undef⟩
 have hr:Rel Γ m (St.den ⟨envFrom 0 args,[],[]⟩) { tmps:=cargs.toArray++Array.replicate (fn.ntmps-cargs.toArray.size) undef,defers:=[] } w:=by
  refine ⟨by simp [Γ];omega,fun t ht=>(by cases ht),rfl,fun t=>?_,hH.dom,hH.blk,hH.inj,fun k i x hx hn=>(by rw [hm] at hx;cases hx),fun b hb=>⟨hFr b hb,hO b⟩,
   fun k hk=>(by cases hk),Ext.refl _ _,fun t k hk=>?_,fun k hk=>?_,fun k i blk hb=>?_,fun k hk=>(by cases hk),hH.glob⟩
  ·simp only [St.den,lookE,look_envFrom,Nat.zero_le,if_true,Nat.sub_zero];cases ha:args[t]? with
   | none=>exact .dead _
   | some u =>
    have hlt:=(List.getElem?_eq_some_iff.1 ha).1;have h2:({ tmps:=cargs.toArray++Array.replicate (fn.ntmps-cargs.toArray.size) undef,defers:=[] }:Act).tmps.getD t undef=cargs[t]'(by omega):=by
     simp [Array.getD_eq_getD_getElem?,Array.getElem?_append,show t<cargs.length by omega]
    rw [h2];exact hv t u _ ha (List.getElem?_eq_getElem _)
  ·simp only [St.den,lookE,look_envFrom,Nat.zero_le,if_true,Nat.sub_zero] at hk;cases ha:args[t]? with
   | none=>rw [ha] at hk;simp [V.sites] at hk
   | some u=>rw [ha] at hk;exact hs u (List.mem_of_getElem? ha) k hk
  ·simp [St.den,lookH,look] at hk
  ·simp [St.den,lookH,look] at hb
 have h1:=(hw Γ rfl rfl hO hFr).out m _ w hr;refine callsIn_wide.1 (CallsIn.mono (callsIn_of_wp_marks (n:=5) hf hb trivial (wpIn_wide.2 h1) rfl) ?_);rintro e w' ⟨cv,m',rfl,a1,a2,a3,a4⟩;refine ⟨cv,m',rfl,a1,a2,fun k i x hx hn=>.inr (a3 k i x hx hn),fun k hk=>(by cases hk),⟨a4.os,a4.tape,a4.output,a4.size,fun b hb _=>a4.block b hb (fun h=>h),a4.shape⟩⟩
end
end Go.Sx
namespace Go.Sx
open Go
inductive BGat (d F n:Nat):Blk→Blk→Prop
 | fam (b:Blk):b.famB=true→BGat d F n b b
 | gone (b:Blk):BGat d F n b .gone
 | rows (sz:Nat) (rs rs1:List (List V)) (ks ks1:Option (List Nat)):rs.length=rs1.length→(∀ (i:Nat) r1,rs1[i]?=some r1→∃ r,rs[i]?=some r∧r1=gatL d F n r∧∀ l,ks1=some l→∀ v∈r1,∀ s∈v.sites,s∈l)→BGat d F n (.rows sz rs ks) (.rows sz rs1 ks1)
 | map (es es1:List (Nat×V×V)) (clock:Nat) (ks ks1:Option (List Nat)):es.length=es1.length→(∀ (i:Nat) b k v1,es1[i]?=some (b,k,v1)→∃ v,es[i]?=some (b,k,v)∧v1=v.gat d F n∧∀ l,ks1=some l→∀ s∈v1.sites,s∈l)→BGat d F n (.map es clock ks) (.map es1 clock ks1)
def envGat (s:St) (d F n:Nat):List (Nat×V)→Prop
 | []=>True
 | (t,v)::l=>v=(lookE s.env t).gat d F n∧envGat s d F n l
theorem envGat.get {s:St}{d F n:Nat}:∀ {l:List (Nat×V)},envGat s d F n l→∀ p∈l,p.2=(lookE s.env p.1).gat d F n
 | [],_,p,hp=>by cases hp
 | (t,v)::l,h,p,hp=>by
  rcases List.mem_cons.1 hp with e | e
  ·subst e;exact h.1
  ·exact envGat.get h.2 p e
def blkKs:Blk→List Nat
 | .rows _ _ (some l)=>l
 | .map _ _ (some l)=>l
 | _=>[]
def heapGat (s:St) (d F n:Nat):List (Nat×List Blk)→Prop
 | []=>True
 | (k,l)::r=>(Nat.beq k d=false∧Nat.beq k F=false∧∃ b b1,lookH s.heap k=[b]∧l=[b1]∧BGat d F n b b1∧((blkKs b1).all fun q=>memB q s.used)=true)∧heapGat s d F n r
theorem heapGat.get {s:St}{d F n:Nat}:∀ {l:List (Nat×List Blk)},heapGat s d F n l→∀ p∈l,p.1≠d∧p.1≠F∧∃ b b1,lookH s.heap p.1=[b]∧p.2=[b1]∧BGat d F n b b1∧((blkKs b1).all fun q=>memB q s.used)=true
 | [],_,p,hp=>by cases hp
 | (k,l)::r,h,p,hp=>by
  rcases List.mem_cons.1 hp with e | e
  ·subst e;obtain ⟨h1,h2,h3⟩:=h.1;exact ⟨fun (e:k=d)=>(by rw [e,Nat.beq_refl] at h1;cases h1),fun (e:k=F)=>(by rw [e,Nat.beq_refl] at h2;cases h2),h3⟩
  ·exact heapGat.get h.2 p e
theorem Ref.gather [Glob] {Γ:Ctx}{s s':St}(d F:Nat) {b:Blk}{L:List Blk}{hp:List (Nat×List Blk)}(hdF:Nat.beq d F=false) (hd:lookH s.heap d=[b]) (hb:b.famB=true) (hF:lookH s.heap F=L) (hFu:memB F s.used=true) (hL:∀ b∈L,b.famB=true)
  (hs':s'.heap=(F,L++[b])::hp) (henv:envGat s d F L.length s'.env) (hheap:heapGat s d F L.length hp) (hus:s'.used=s.used) (hK:Γ.K0.all (fun k=>match Nat.beq k d with | true=>false | false=>match Nat.beq k F with | true=>false | false=>true)=true):Ref Γ s s':=by
 intro m a w hr;have hdF':d≠F:=fun e=>by rw [e,Nat.beq_refl] at hdF;cases hdF
 have hden:∀ k,s.den.heap k=lookH s.heap k:=fun _=>rfl;obtain ⟨xd,hxd,hBd⟩:=hr.heap d 0 b (by rw [hden,hd];rfl)
 let m':MM:=fun k i=>match lookH s'.heap k with | []=>none | _=>m.gat d F L.length k i
 have hlook:∀ k,lookH s'.heap k=if k=F then L++[b] else lookH hp k:=fun k=>by
  rw [hs'];unfold lookH;rw [look_cons];by_cases e:k=F<;>simp [e]
 have hpk:∀ k,k≠F→lookH hp k≠[]→k≠d∧∃ b0 b1,lookH s.heap k=[b0]∧lookH hp k=[b1]∧BGat d F L.length b0 b1∧((blkKs b1).all fun q=>memB q s.used)=true:=fun k hkF hne=>by
  unfold lookH at hne;cases hq:look hp k with
  | none=>rw [hq] at hne;simp at hne
  | some l =>
   obtain ⟨h1,h2,b0,b1,h3,h4,h5⟩:=heapGat.get hheap _ (look_mem hq);refine ⟨h1,b0,b1,h3,?_,h5⟩;unfold lookH;rw [hq];exact h4
 have hm':∀ k i,lookH s'.heap k≠[]→m' k i=m.gat d F L.length k i:=fun k i hne=>by
  show (match lookH s'.heap k with | []=>none | _=>m.gat d F L.length k i)=_;cases hq:lookH s'.heap k with
  | nil=>exact absurd hq hne
  | cons _ _=>rfl
 have hsub:∀ k i x,m' k i=some x→m.gat d F L.length k i=some x:=fun k i x hx=>by
  simp only [m'] at hx;split at hx
  ·cases hx
  ·exact hx
 have hdomF:∀ i,(m F i).isSome=true↔i<L.length:=fun i=>by
  have:=hr.dom F i;rw [hden,hF] at this;exact this
 have horig:∀ k i x,m.gat d F L.length k i=some x→∃ k0 i0,m k0 i0=some x∧((k0=d∧i0=0∧k=F∧i=L.length)∨(k0=k∧i0=i∧k≠d∧(k=F→i<L.length))):=fun k i x hx=>by
  unfold MM.gat at hx;split at hx
  ·cases hx
  ·rename_i n1;split at hx
   ·rename_i e;split at hx
    ·rename_i e2;exact ⟨d,0,hx,.inl ⟨rfl,rfl,e,e2⟩⟩
    ·split at hx
     ·rename_i e3;exact ⟨F,i,hx,.inr ⟨e.symm,rfl,by rw [e];exact Ne.symm hdF',fun _=>e3⟩⟩
     ·cases hx
   ·rename_i e;exact ⟨k,i,hx,.inr ⟨rfl,rfl,n1,fun h=>absurd h e⟩⟩
 have hOwn:∀ b,Own m' b→Own m b:=fun b ⟨k,i,x,hx,hn,hb⟩=>by
  obtain ⟨k0,i0,h1,_⟩:=horig k i x (hsub k i x hx);exact ⟨k0,i0,x,h1,hn,hb⟩
 have hforb:∀ b,Forb Γ m' b→Forb Γ m b:=fun b h=>h.imp id (hOwn b);have weak:∀ {v c},VRel w (Forb Γ m) (m.gat d F L.length) v c→VRel w (Forb Γ m') m' v c:=fun hv =>
  hv.mono (fun b _ hn=>⟨rfl,fun h=>hn (hforb b h)⟩) (Nat.le_refl _) (fun _ _ _ h=>h) (fun k i x hx=>⟨x,hsub k i x hx,.inl rfl⟩)
 have go:∀ {v c},VRel w (Forb Γ m) m v c→VRel w (Forb Γ m') m' (v.gat d F L.length) c:=fun hv=>weak (hv.gat hdF');have hFne:lookH s'.heap F≠[]:=by rw [hlook];simp
 have hused:∀ q,q=F∨s.used.contains q=true∨memB q s.used=true→memB q s'.used=true→True:=fun _ _ _=>trivial;have usedV:∀ v:V,(∀ q∈v.sites,memB q s.used=true)→∀ q∈(v.gat d F L.length).sites,s'.den.used q=true:=fun v h q hq=>by
  show memB q s'.used=true;rw [hus];rcases gat_sites v q hq with rfl | h1
  ·exact hFu
  ·exact h q h1
 refine ⟨m',hr.size,hr.pin,hr.defers,fun t=>?_,fun k i=>?_,fun k i blk hbk=>?_,fun k i x k' i' x' hx hx' hn hn' hbb=>?_,fun k i x hx hn=>?_,hr.frw,fun k hk i x hx=>?_,hr.ext,fun t q hq=>?_,fun k hne=>?_,fun k i blk hbk=>?_,fun k hk=>?_,hr.glob.tr (fun b _ hn=>⟨rfl,fun h=>hn (hforb b h)⟩) (Nat.le_refl _)⟩
 ·show VRel w (Forb Γ m') m' (lookE s'.env t) _;unfold lookE;cases hq:look s'.env t with
  | none=>exact .dead _
  | some v =>
   have h1:=envGat.get henv _ (look_mem hq);simp only at h1;subst h1;exact go (hr.env t)
 ·show (m' k i).isSome=true↔i<(lookH s'.heap k).length;by_cases hne:lookH s'.heap k=[]
  ·simp [m',hne]
  ·rw [hm' k i hne,hlook];by_cases e:k=F
   ·subst e;rw [if_pos rfl];unfold MM.gat;rw [if_neg (Ne.symm hdF'),if_pos rfl];by_cases e1:i=L.length
    ·simp [e1,hxd]
    ·rw [if_neg e1];by_cases e2:i<L.length
     ·rw [if_pos e2];have:=hdomF i;simp only [List.length_append,List.length_singleton];constructor
      ·intro _;omega
      ·intro _;exact this.2 e2
     ·rw [if_neg e2];simp;omega
   ·rw [if_neg e];rw [hlook,if_neg e] at hne;obtain ⟨n1,b0,b1,h3,h4,_,_⟩:=hpk k e hne;unfold MM.gat;rw [if_neg n1,if_neg e,h4];have:=hr.dom k i;rw [hden,h3] at this;simpa using this
 ·have hbk:(lookH s'.heap k)[i]?=some blk:=hbk;have hne:lookH s'.heap k≠[]:=fun e=>by rw [e] at hbk;simp at hbk
  rw [hm' k i hne];rw [hlook] at hbk;have famrel:∀ (bb:Blk) (x:MB),bb.famB=true→BRel w (Forb Γ m) m x bb→BRel w (Forb Γ m') m' x bb:=fun bb x hf hB=>by
   have hp:∀ {v:V}{c},v.sites=[]→VRel w (Forb Γ m) m v c→VRel w (Forb Γ m') m' v c:=fun h0 hv=>by
    have:=go hv
    rwa [V.gat_pure _ h0] at this
   cases bb with
   | rows sz rs ks=>cases ks with
    | none=>cases hf
    | some l=>cases l with
     | cons _ _=>cases hf
     | nil =>
      obtain ⟨h1,h2,h3,h4,h5,h6⟩:=hB;refine ⟨h1,h2,h3,h4,h5,fun i r j v hi hj=>?_⟩;obtain ⟨g1,g2,c,g3,g5,g4⟩:=h6 i r j v hi hj;have h0:v.sites=[]:=List.eq_nil_iff_forall_not_mem.2 fun q hq=>by have:=g2 [] rfl q hq;cases this
      exact ⟨g1,g2,c,g3,g5,hp h0 g4⟩
   | map es clock ks=>cases ks with
    | none=>cases hf
    | some l=>cases l with
     | cons _ _=>cases hf
     | nil =>
      obtain ⟨h1,h2,ents,h3,h4,h5,h6,h7⟩:=hB;refine ⟨h1,h2,ents,h3,h4,h5,h6,fun i b k v hi=>?_⟩;obtain ⟨e,g1,g0,g2,g3,g4,g5⟩:=h7 i b k v hi;have h0:v.sites=[]:=List.eq_nil_iff_forall_not_mem.2 fun q hq=>by have:=g3 [] rfl q hq;cases this
      exact ⟨e,g1,g0,g2,g3,hp g2 g4,hp h0 g5⟩
   | iter=>cases hf
   | gone=>cases hf
  by_cases e:k=F
  ·subst e;rw [if_pos rfl,List.getElem?_append] at hbk;unfold MM.gat;rw [if_neg (Ne.symm hdF'),if_pos rfl];split at hbk
   ·rename_i hlt;rw [if_neg (by omega),if_pos hlt];obtain ⟨x,hx,hB⟩:=hr.heap k i blk (by rw [hden,hF];exact hbk);exact ⟨x,hx,famrel blk x (hL blk (List.mem_of_getElem? hbk)) hB⟩
   ·rename_i hge;have h0:i-L.length=0:=by
     have:=(List.getElem?_eq_some_iff.1 hbk).1;simp at this;omega
    rw [h0] at hbk;simp at hbk;subst hbk;rw [if_pos (by omega)];exact ⟨xd,hxd,famrel b xd hb hBd⟩
  ·rw [if_neg e] at hbk;rw [hlook,if_neg e] at hne;obtain ⟨n1,b0,b1,h3,h4,h5,hks5⟩:=hpk k e hne;rw [h4] at hbk;cases i with
   | succ i=>simp at hbk
   | zero =>
    simp at hbk;subst hbk;obtain ⟨x,hx,hB⟩:=hr.heap k 0 b0 (by rw [hden,h3];rfl);unfold MM.gat;rw [if_neg n1,if_neg e];refine ⟨x,hx,?_⟩;cases h5 with
    | fam _ hf=>exact famrel b0 x hf hB
    | gone=>trivial
    | rows sz rs rs1 ks ks1 hlen hrs =>
     obtain ⟨h1,h2,h3',h4',h5',h6⟩:=hB;refine ⟨h1,by rw [h2,hlen],fun i r1 hi=>?_,fun hn=>?_,fun hn=>by rw [←hlen];exact h5' hn,fun i r1 j v1 hi hj=>?_⟩
     ·obtain ⟨r,hr0,rfl,_⟩:=hrs i r1 hi;rw [gatL_eq,List.length_map];exact h3' i r hr0
     ·have:=h4' hn;rw [this] at hlen;exact List.length_eq_zero_iff.1 hlen.symm
     ·obtain ⟨r,hr0,rfl,hks⟩:=hrs i r1 hi;rw [gatL_eq,List.getElem?_map,Option.map_eq_some_iff] at hj;obtain ⟨v,hv0,rfl⟩:=hj;obtain ⟨g1,g2,c,g3,g5,g4⟩:=h6 i r j v hr0 hv0;exact ⟨V.one_gat g1,fun l hl q hq=>hks l hl _ (by rw [gatL_eq];exact List.mem_map_of_mem (List.mem_of_getElem? hv0)) q hq,c,g3,g5,go g4⟩
    | map es es1 clock ks ks1 hlen hes =>
     obtain ⟨h1,h2,ents,h3',h4',h5',h6,h7⟩:=hB;refine ⟨h1,h2,ents,h3',by rw [h4',hlen],h5',h6,fun i b k v1 hi=>?_⟩;obtain ⟨v,hv0,rfl,hks⟩:=hes i b k v1 hi;obtain ⟨e,g1,g0,g2,g3,g4,g5⟩:=h7 i b k v hv0;have hk0:=go g4;rw [V.gat_pure _ g2] at hk0;exact ⟨e,g1,g0,g2,hks,hk0,go g5⟩
 ·obtain ⟨k0,i0,a1,a2⟩:=horig k i x (hsub k i x hx);obtain ⟨k1,i1,b1,b2⟩:=horig k' i' x' (hsub k' i' x' hx');obtain ⟨e1,e2⟩:=hr.inj k0 i0 x k1 i1 x' a1 b1 hn hn' hbb;rcases a2 with ⟨p1,p2,p3,p4⟩ | ⟨p1,p2,p3,p4⟩<;>rcases b2 with ⟨q1,q2,q3,q4⟩ | ⟨q1,q2,q3,q4⟩
  ·exact ⟨by rw [p3,q3],by rw [p4,q4]⟩
  ·exact absurd (q1.symm.trans (e1.symm.trans p1)) q3
  ·exact absurd (p1.symm.trans (e1.trans q1)) p3
  ·exact ⟨by rw [←p1,←q1,e1],by rw [←p2,←q2,e2]⟩
 ·obtain ⟨k0,i0,a1,_⟩:=horig k i x (hsub k i x hx);exact hr.fr k0 i0 x a1 hn
 ·obtain ⟨k0,i0,a1,a2⟩:=horig k i x (hsub k i x hx);have h1:=List.all_eq_true.1 hK k hk;rcases a2 with ⟨p1,p2,p3,p4⟩ | ⟨p1,p2,p3,p4⟩
  ·subst p3;rw [Nat.beq_refl] at h1;exfalso;revert h1;cases Nat.beq k d<;>simp
  ·subst p1 p2;exact hr.keep _ hk _ x a1
 ·have hq:q∈(lookE s'.env t).sites:=hq;unfold lookE at hq;cases hl:look s'.env t with
  | none=>rw [hl] at hq;simp [V.sites] at hq
  | some v =>
   rw [hl] at hq;have h1:=envGat.get henv _ (look_mem hl);simp only at h1 hq;subst h1;exact usedV _ (fun q hq=>hr.useE t q hq) q hq
 ·show memB k s'.used=true;rw [hus];have hne:lookH s'.heap k≠[]:=hne;by_cases e:k=F
  ·rw [e];exact hFu
  ·rw [hlook,if_neg e] at hne;obtain ⟨_,b0,b1,h3,_,_,_⟩:=hpk k e hne;exact hr.useH k (by rw [hden,h3];simp)
 ·have hbk:(lookH s'.heap k)[i]?=some blk:=hbk;have hne:lookH s'.heap k≠[]:=fun e=>by rw [e] at hbk;simp at hbk
  rw [hlook] at hbk;by_cases e:k=F
  ·rw [if_pos e] at hbk;have hm:=List.mem_of_getElem? hbk;rcases List.mem_append.1 hm with h1 | h1
   ·exact famWithin (hL _ h1)
   ·simp at h1;subst h1;exact famWithin hb
  ·rw [if_neg e] at hbk;rw [hlook,if_neg e] at hne;obtain ⟨n1,b0,b1,h3,h4,h5,hks5⟩:=hpk k e hne;rw [h4] at hbk;cases i with
   | succ i=>simp at hbk
   | zero =>
    simp at hbk;subst hbk;have hw0:=hr.useB k 0 b0 (by rw [hden,h3];rfl);obtain ⟨x,hx,hB⟩:=hr.heap k 0 b0 (by rw [hden,h3];rfl);cases h5 with
    | fam _ hf=>exact famWithin hf
    | gone=>trivial
    | rows sz rs rs1 ks ks1 hlen hrs =>
     have cellS:∀ (i:Nat) r1 (j:Nat) v1,rs1[i]?=some r1→r1[j]?=some v1→∀ q∈v1.sites,s'.den.used q=true:=fun i r1 j v1 hi hj q hq=>by
      obtain ⟨r,hr0,rfl,_⟩:=hrs i r1 hi;rw [gatL_eq,List.getElem?_map,Option.map_eq_some_iff] at hj;obtain ⟨v,hv0,rfl⟩:=hj;refine usedV v (fun q hq=>?_) q hq;obtain ⟨_,g2,_⟩:=hB.cell i r j v hr0 hv0;cases ks with
      | none=>exact hw0 i r j v hr0 hv0 q hq
      | some l=>exact hw0 q (g2 l rfl q hq)
     cases ks1 with
     | none=>exact cellS
     | some l =>
      intro q hq;show memB q s'.used=true;rw [hus];exact List.all_eq_true.1 hks5 q hq
    | map es es1 clock ks ks1 hlen hes =>
     cases ks1 with
     | none =>
      intro i b k v1 hi q hq;obtain ⟨v,hv0,rfl,_⟩:=hes i b k v1 hi;refine usedV v (fun q hq=>?_) q hq;obtain ⟨_,_,ents,_,_,_,_,h7⟩:=hB;obtain ⟨e,_,_,_,g3,_⟩:=h7 i b k v hv0;cases ks with
      | none=>exact hw0 i b k v hv0 q hq
      | some l=>exact hw0 q (g3 l rfl q hq)
     | some l =>
      intro q hq;show memB q s'.used=true;rw [hus];exact List.all_eq_true.1 hks5 q hq
 ·show memB k s'.used=true;rw [hus];exact hr.useK k hk
structure Hold (p:Prop):Prop where
 out:p
theorem gGo {G H:Prop}(k:H) (h:Hold H→G:=by
 intro hh
 repeat (first | refine W.seq ?_ | refine W.block ?_ | refine W.condT rfl ?_ | refine W.condF rfl ?_ | ((first | refine W.reg env hN (by kernel_rfl) ?_ | refine W.skip ?_ | refine W.exit ?_ | refine fun (hlZ:(_:Nat)≤_)=>?_ | refine okFp_intro (by kernel_rfl) ?_ | refine And.intro rfl ?_ | refine And.intro (by omega) ?_ | refine rowAt_of rfl ?_ | refine boolRes_true (by omega) ?_ | refine boolRes_false (by omega) ?_ | refine boolRes_true rfl ?_ | refine Or.inr ?_);conv=>whnf))
 repeat revert hlZ
 exact hh.out):G:=h ⟨k⟩
theorem gGl {G H:Prop}(k:H) (h:Hold H→G:=by
 intro hh
 repeat (first | refine W.seq ?_ | refine W.block ?_ | refine W.condT rfl ?_ | refine W.condF rfl ?_ | ((first | refine W.reg env hN (by kernel_rfl) ?_ | refine W.skip ?_ | refine W.exit ?_ | refine fun (hlZ:(_:Nat)≤_)=>?_ | refine okFp_intro (by kernel_rfl) ?_ | refine And.intro rfl ?_ | refine And.intro (by omega) ?_ | refine rowAt_of rfl ?_ | refine boolRes_true (by omega) ?_ | refine boolRes_false (by omega) ?_ | refine boolRes_true rfl ?_);conv=>whnf))
 repeat revert hlZ
 exact hh.out):G:=h ⟨k⟩
theorem gGr {G H:Prop}(k:H) (h:Hold H→G:=by
 intro hh
 repeat (first | refine W.seq ?_ | refine W.block ?_ | refine W.condT rfl ?_ | refine W.condF rfl ?_ | ((first | refine W.reg env hN (by kernel_rfl) ?_ | refine W.skip ?_ | refine W.exit ?_ | refine fun (hlZ:(_:Nat)≤_)=>?_ | refine okFp_intro (by kernel_rfl) ?_ | refine And.intro rfl ?_ | refine And.intro (by omega) ?_ | refine rowAt_of rfl ?_ | refine boolRes_true (by omega) ?_ | refine boolRes_false (by omega) ?_ | refine boolRes_true rfl ?_ | refine Or.inr ?_ | refine W.ret ?_);conv=>whnf))
 repeat revert hlZ
 exact hh.out):G:=h ⟨k⟩
theorem gGs {G H:Prop}(k:H) (h:Hold H→G:=by
 intro hh
 repeat ((first | refine okFp_intro (by kernel_rfl) ?_ | refine fun (hlZ:(_:Nat)≤_)=>?_ | refine And.intro rfl ?_ | refine And.intro (by omega) ?_ | refine rowAt_of rfl ?_ | refine boolRes_true (by omega) ?_ | refine boolRes_false (by omega) ?_ | refine boolRes_true rfl ?_ | refine Or.inr ?_);conv=>whnf)
 repeat revert hlZ
 exact hh.out):G:=h ⟨k⟩
section
variable {P:Program}{N:NB}{o:Oper}{c:Call}{fop:Operand}{ρ:Operand→V}{f:Nat}{caps args:List V}{h:Nat→List Blk}{hin hout:List (Nat×Blk)}{v:V}{K:Kont}
theorem gPC [Glob] (sp:Spec P f args [] v []) (k:K (v.ren (look [])) (upsOf [] [] []) []) (hop:o.op=.call c:=by exact rfl) (hc:c.callee=.value fop:=by exact rfl) (hfn:ρ fop=.fn f caps:=by exact rfl)
  (hd:dstOK N o.dst=true:=by kernel_rfl) (hargs:LentL h [] (c.args.toList.map ρ++caps) (args.map (V.ren (look []))):=by repeat' (first | exact trivial | exact Lent.refl _ | exact Lent.norm _ | apply And.intro))
  (hs:(args.all fun u=>u.sites.all fun k=>memB k (keys []))=true:=by exact rfl) (ok:CallOK h [] [] [] [] v []:=by exact ⟨rfl,rfl,rfl,rfl,rfl,trivial,rfl,rfl⟩):∃ v us rd,GoodW P N o ρ h v us rd∧K v us rd:=
 ⟨_,_,_,callG [] [] [] hop hc hfn hd sp hargs hs ok,k⟩
theorem gCA [Glob] (mp fr:List (Nat×Nat)) (bo:List Nat) (sp:Spec P f args hin v hout) (k:K (v.ren (look (mp++fr))) (upsOf mp fr hout) (mp.map (·.2)++bo)) (hop:o.op=.call c:=by exact rfl) (hc:c.callee=.value fop:=by exact rfl) (hfn:ρ fop=.fn f caps:=by exact rfl)
  (hd:dstOK N o.dst=true:=by kernel_rfl) (hargs:LentL h bo (c.args.toList.map ρ++caps) (args.map (V.ren (look mp))):=by repeat' (first | exact trivial | exact Lent.refl _ | exact Lent.norm _ | apply And.intro))
  (hs:(args.all fun u=>u.sites.all fun k=>memB k (keys hin))=true:=by exact rfl) (ok:CallOK h mp fr bo hin v hout:=by exact ⟨rfl,rfl,rfl,rfl,rfl,by repeat' (first | exact trivial | rfl | apply And.intro),rfl,rfl⟩):∃ v us rd,GoodW P N o ρ h v us rd∧K v us rd:=
 ⟨_,_,_,callG mp fr bo hop hc hfn hd sp hargs hs ok,k⟩
end
theorem gEn [Glob] {P:Program}{T:List (Nat×TI)}(hE:Env P T) {f:Nat}{fn:Func}{c:Code}{args:List V}{hin:List (Nat×Blk)}{v:V}{hout:List (Nat×Blk)}(hf:P.funcs[f]?=some fn)
  (hw:∀ Γ:Ctx,Γ.N=fn.ntmps→Γ.K0=keys hin→maxLen=9223372036854775807→W P T Γ c (RetQ T fn v hout) ⟨envFrom 0 args,heapL hin,keys hin⟩)
  (hb:fn.body=some c:=by exact rfl) (hname:(fn.name == "runtime.NumGoroutine")=false:=by kernel_rfl) (hN:Nat.ble args.length fn.ntmps=true:=by kernel_rfl) (hK0:((keys hin).all fun k=>memB k (keys hout))=true:=by exact rfl):Spec P f args hin v hout:=
 Spec.body hE hf hb hname (Nat.le_of_ble_eq_true hN) (keysSub hK0) fun Γ hN hK=>hw Γ hN hK (by unfold maxLen;rfl)
theorem HeapG.ci {s:St}{bo gs:List Nat}{mp:List (Nat×Nat)}(k:Nat) {k':Nat}{b:Blk}{l:List Blk}{r:List (Nat×List Blk)}(hr:HeapG s bo gs mp r) (h1:look mp k=some k':=by exact rfl) (h2:lookH s.heap k=[b]:=by exact rfl) (h3:l=[b.ren (look mp)]:=by exact rfl):HeapG s bo gs mp ((k',l)::r):=.cons k h1 h2 (.refl _) h3 hr
theorem LeG.mq {K0:List Nat}{mp:List (Nat×Nat)}{bo:List Nat}{s s':St}(hheap:HeapG s bo [] mp s'.heap) (nd1:nodupB (mp.map (·.1))=true:=by exact rfl) (nd2:nodupB (mp.map (·.2))=true:=by exact rfl) (ndb:(bo.all fun k=>match look mp k with | none=>true | some k'=>match lookH s'.heap k' with | []=>true | l=>goneB l)=true:=by exact rfl) (henv:envG s bo mp s'.env:=by repeat' (first | exact trivial | exact ⟨_,.refl _,rfl⟩ | apply And.intro)) (hused:(mp.all fun p=>memB p.2 s'.used)=true:=by exact rfl) (hsub:(s'.used.all fun k=>memB k (mp.map (·.2)))=true:=by exact rfl) (hkeep:keepB mp [] K0=true:=by rw [hK];rfl):LeG K0 mp bo [] s s':=LeG.mk' nd1 nd2 ndb henv hheap hused hsub hkeep
end Go.Sx
namespace Go.Sx
open Go
section
variable {P:Program}{N:NB}{o:Oper}{c:Call}{fop:Operand}{ρ:Operand→V}{f:Nat}{caps args:List V}{h:Nat→List Blk}{v:V}{K:Kont}
theorem gPA [Glob] (k:K (v.ren (look [])) (upsOf [] [] []) []) (hop:o.op=.call c:=by exact rfl) (hc:c.callee=.value fop:=by exact rfl) (hfn:ρ fop=.fn f caps:=by exact rfl) (sp:Spec P f args [] v []:=by assumption)
  (hd:dstOK N o.dst=true:=by kernel_rfl) (hargs:LentL h [] (c.args.toList.map ρ++caps) (args.map (V.ren (look []))):=by repeat' (first | exact trivial | exact Lent.refl _ | exact Lent.norm _ | apply And.intro))
  (hs:(args.all fun u=>u.sites.all fun k=>memB k (keys []))=true:=by exact rfl) (ok:CallOK h [] [] [] [] v []:=by exact ⟨rfl,rfl,rfl,rfl,rfl,trivial,rfl,rfl⟩):∃ v us rd,GoodW P N o ρ h v us rd∧K v us rd:=
 gPC sp k hop hc hfn hd hargs hs ok
end
theorem g {G H:Prop}(k:H) (h:Hold H→G:=by
 intro hh
 repeat (first | refine W.seq ?_ | refine W.block ?_ | refine W.condT rfl ?_ | refine W.condF rfl ?_ | ((first | refine W.reg env hN (by kernel_rfl) ?_ | refine W.skip ?_ | refine W.exit ?_ | refine fun (hlZ:(_:Nat)≤_)=>?_ | refine okFp_intro (by kernel_rfl) ?_ | refine And.intro rfl ?_ | refine And.intro (by omega) ?_ | refine rowAt_of rfl ?_ | refine rowAt_of (by first | assumption | (simp only [Nat.zero_add,Int.toNat_natCast];assumption)) ?_ | refine boolRes_true (by omega) ?_ | refine boolRes_false (by omega) ?_ | refine boolRes_true rfl ?_ | refine gPA ?_ | refine Or.inr ?_);conv=>whnf))
 repeat revert hlZ
 exact hh.out):G:=h ⟨k⟩
theorem gT {G A B:Prop}(k1:A) (k2:B) (h:Hold A→Hold B→G:=by
  intro ha hc
  repeat (first | refine W.seq ?_ | refine W.block ?_ | refine W.condT rfl ?_ | refine W.condF rfl ?_ | ((first | refine W.reg env hN (by kernel_rfl) ?_ | refine W.skip ?_ | refine W.exit ?_ | refine fun (hlZ:(_:Nat)≤_)=>?_ | refine okFp_intro (by kernel_rfl) ?_ | refine And.intro rfl ?_ | refine And.intro (by omega) ?_ | refine rowAt_of rfl ?_ | refine rowAt_of (by first | assumption | (simp only [Nat.zero_add,Int.toNat_natCast];assumption)) ?_ | refine boolRes_true (by omega) ?_ | refine boolRes_false (by omega) ?_ | refine boolRes_true rfl ?_ | refine gPA ?_ | refine Or.inr ?_);conv=>whnf))
  (refine boolRes_split ?_ ?_
   · refine fun hZ => ?_
     conv => whnf
     repeat revert hlZ
     revert hZ
     exact ha.out
   · refine fun hZ => ?_
     conv => whnf
     repeat revert hlZ
     revert hZ
     exact hc.out)):G:=h ⟨k1⟩ ⟨k2⟩
theorem gR {G:Prop}(h:G:=by
 repeat (first | refine W.seq ?_ | refine W.block ?_ | refine W.condT rfl ?_ | refine W.condF rfl ?_ | ((first | refine W.reg env hN (by kernel_rfl) ?_ | refine W.skip ?_ | refine W.exit ?_ | refine fun (hlZ:(_:Nat)≤_)=>?_ | refine okFp_intro (by kernel_rfl) ?_ | refine And.intro rfl ?_ | refine And.intro (by omega) ?_ | refine rowAt_of rfl ?_ | refine rowAt_of (by first | assumption | (simp only [Nat.zero_add,Int.toNat_natCast];assumption)) ?_ | refine boolRes_true (by omega) ?_ | refine boolRes_false (by omega) ?_ | refine boolRes_true rfl ?_ | refine gPA ?_ | refine Or.inr ?_ | refine W.ret ?_);conv=>whnf))
 exact ret0 rfl rfl rfl):G:=h
end Go.Sx
namespace Go.Sx
open Go
def idMp (l:List (Nat×List Blk)):List (Nat×Nat):=l.map fun p=>(p.1,p.1)
theorem look_id:∀ {l:List (Nat×List Blk)}{p:Nat×List Blk},p∈l→look (idMp l) p.1=some p.1
 | q::l,p,h=>by
  show look ((q.1,q.1)::idMp l) p.1=_;rw [look_cons];split
  ·rename_i e;rw [e]
  ·rename_i e;rcases List.mem_cons.1 h with h | h
   ·subst h;exact absurd rfl e
   ·exact look_id h
def heapId (s:St) (mp:List (Nat×Nat)):List (Nat×List Blk)→Prop
 | []=>True
 | (k,l)::r=>(∃ b,lookH s.heap k=[b]∧l=[b.ren (look mp)])∧heapId s mp r
theorem heapId.to {s:St}{mp:List (Nat×Nat)}:∀ {r:List (Nat×List Blk)},heapId s mp r→(∀ p∈r,look mp p.1=some p.1)→HeapG s [] [] mp r
 | [],_,_=>.nil
 | (k,l)::r,⟨⟨b,h1,h2⟩,h⟩,g=>.cons k (g (k,l) List.mem_cons_self) h1 (.refl _) h2 (heapId.to h fun p hp=>g p (List.mem_cons_of_mem _ hp))
theorem gV {K0:List Nat}{s s':St}(hheap:heapId s (idMp s'.heap) s'.heap) (nd1:nodupB ((idMp s'.heap).map (·.1))=true) (nd2:nodupB ((idMp s'.heap).map (·.2))=true)
  (henv:envG s [] (idMp s'.heap) s'.env) (hused:((idMp s'.heap).all fun p=>memB p.2 s'.used)=true) (hsub:(s'.used.all fun k=>memB k ((idMp s'.heap).map (·.2)))=true) (hkeep:keepB (idMp s'.heap) [] K0=true):LeG K0 (idMp s'.heap) [] [] s s':=
 LeG.mq (hheap.to fun _=>look_id) nd1 nd2 rfl henv hused hsub hkeep
theorem gX {K0:List Nat}{s s':St}(hheap:heapId s (idMp s'.heap) s'.heap:=by repeat' (first | exact trivial | exact ⟨_,rfl,rfl⟩ | apply And.intro)) (nd1:nodupB ((idMp s'.heap).map (·.1))=true:=by exact rfl) (nd2:nodupB ((idMp s'.heap).map (·.2))=true:=by exact rfl)
  (henv:envG s [] (idMp s'.heap) s'.env:=by repeat' (first | exact trivial | exact ⟨_,.refl _,rfl⟩ | apply And.intro)) (hused:((idMp s'.heap).all fun p=>memB p.2 s'.used)=true:=by exact rfl) (hsub:(s'.used.all fun k=>memB k ((idMp s'.heap).map (·.2)))=true:=by exact rfl) (hkeep:keepB (idMp s'.heap) [] K0=true:=by rw [hK];rfl):LeX K0 s s':=
 ⟨_,_,_,gV hheap nd1 nd2 henv hused hsub hkeep⟩
theorem gY [Glob] {Γ:Ctx}{s s':St}(hheap:heapId s (idMp s'.heap) s'.heap:=by repeat' (first | exact trivial | exact ⟨_,rfl,rfl⟩ | apply And.intro)) (nd1:nodupB ((idMp s'.heap).map (·.1))=true:=by exact rfl) (nd2:nodupB ((idMp s'.heap).map (·.2))=true:=by exact rfl)
  (henv:envG s [] (idMp s'.heap) s'.env:=by repeat' (first | exact trivial | exact ⟨_,.refl _,rfl⟩ | apply And.intro)) (hused:((idMp s'.heap).all fun p=>memB p.2 s'.used)=true:=by exact rfl) (hsub:(s'.used.all fun k=>memB k ((idMp s'.heap).map (·.2)))=true:=by exact rfl) (hkeep:keepB (idMp s'.heap) [] Γ.K0=true:=by rw [hK];rfl):Ref Γ s s':=
 Ref.le (gV hheap nd1 nd2 henv hused hsub hkeep)
theorem gZ {I:Nat→St→Prop}{n n':Nat}{K0:List Nat}{s s':St}(h:I n' s') (hlt:n' < n:=by omega) (hheap:heapId s (idMp s'.heap) s'.heap:=by repeat' (first | exact trivial | exact ⟨_,rfl,rfl⟩ | apply And.intro)) (nd1:nodupB ((idMp s'.heap).map (·.1))=true:=by exact rfl) (nd2:nodupB ((idMp s'.heap).map (·.2))=true:=by exact rfl)
  (henv:envG s [] (idMp s'.heap) s'.env:=by repeat' (first | exact trivial | exact ⟨_,.refl _,rfl⟩ | apply And.intro)) (hused:((idMp s'.heap).all fun p=>memB p.2 s'.used)=true:=by exact rfl) (hsub:(s'.used.all fun k=>memB k ((idMp s'.heap).map (·.2)))=true:=by exact rfl) (hkeep:keepB (idMp s'.heap) [] K0=true:=by rw [hK];rfl):∃ n' s',n' < n∧I n' s'∧LeX K0 s s':=
 ⟨_,_,hlt,h,_,_,_,gV hheap nd1 nd2 henv hused hsub hkeep⟩
theorem gW [Glob] {I:Nat→St→Prop}{n n':Nat}{Γ:Ctx}{s s':St}(h:I n' s') (hlt:n' < n:=by omega) (hheap:heapId s (idMp s'.heap) s'.heap:=by repeat' (first | exact trivial | exact ⟨_,rfl,rfl⟩ | apply And.intro)) (nd1:nodupB ((idMp s'.heap).map (·.1))=true:=by exact rfl) (nd2:nodupB ((idMp s'.heap).map (·.2))=true:=by exact rfl)
  (henv:envG s [] (idMp s'.heap) s'.env:=by repeat' (first | exact trivial | exact ⟨_,.refl _,rfl⟩ | apply And.intro)) (hused:((idMp s'.heap).all fun p=>memB p.2 s'.used)=true:=by exact rfl) (hsub:(s'.used.all fun k=>memB k ((idMp s'.heap).map (·.2)))=true:=by exact rfl) (hkeep:keepB (idMp s'.heap) [] Γ.K0=true:=by rw [hK];rfl):∃ n' s',n' < n∧I n' s'∧Ref Γ s s':=
 ⟨_,_,hlt,h,Ref.le (gV hheap nd1 nd2 henv hused hsub hkeep)⟩
def keysF (h:List (Nat×List Blk)):List Nat:=h.map (·.1)
def idK (K:List Nat) (k:Nat):Option Nat:=match memB k K with | true=>some k | false=>none
theorem idK_some {K:List Nat}{k k':Nat}(h:idK K k=some k'):k=k'∧memB k K=true:=by
 unfold idK at h;split at h
 ·rename_i hm;cases h;exact ⟨rfl,hm⟩
 ·cases h
theorem idK_of {K:List Nat}{k:Nat}(h:memB k K=true):idK K k=some k:=by simp [idK,h]
theorem V.ren_idK {K:List Nat}{v:V}(h:∀ s∈v.sites,memB s K=true):v.ren (idK K)=v:=V.ren_same v fun s hs=>idK_of (h s hs)
theorem fixB_idK {K:List Nat}:∀ {l:List Nat},(∀ k∈l,memB k K=true)→fixB (idK K) l=true
 | [],_=>rfl
 | k::l,h=>by
  have h1:idK K k=some k:=idK_of (h k (by simp));simp only [fixB,h1,Nat.beq_refl,Bool.true_and];exact fixB_idK fun j hj=>h j (by simp [hj])
theorem Blk.ren_idK {K:List Nat}{b:Blk}(h:b.within fun k=>memB k K):b.ren (idK K)=b:=by
 cases b with
 | rows sz rows ks =>
  cases ks with
  | none =>
   simp only [Blk.ren];congr 1;refine (List.map_congr_left fun r hr=>?_).trans (List.map_id' rows);obtain ⟨i,hi⟩:=List.getElem?_of_mem hr;rw [renL_eq];refine (List.map_congr_left fun v hv=>?_).trans (List.map_id' r);obtain ⟨j,hj⟩:=List.getElem?_of_mem hv;exact V.ren_idK fun s hs=>h i r j v hi hj s hs
  | some l=>simp only [Blk.ren,fixB_idK (K:=K) (l:=l) h]
 | map es c ks =>
  cases ks with
  | none =>
   simp only [Blk.ren];congr 1;refine (List.map_congr_left fun p hp=>?_).trans (List.map_id' es);obtain ⟨i,hi⟩:=List.getElem?_of_mem hp;obtain ⟨b,k,v⟩:=p;simp only [Prod.mk.injEq,true_and];exact V.ren_idK fun s hs=>h i b k v hi s hs
  | some l=>simp only [Blk.ren,fixB_idK (K:=K) (l:=l) h]
 | iter s i c seen =>
  have h1:idK K s=some s:=idK_of h;simp only [Blk.ren,h1]
 | gone=>rfl
structure FRel [Glob] (Fr:Nat→Prop) (m:MM) (h:List (Nat×List Blk)) (w:World):Prop where
 dom:∀ k i,(m k i).isSome=true↔i<(lookH h k).length
 blk:∀ k (i:Nat) blk,(lookH h k)[i]?=some blk→∃ x,m k i=some x∧BRel w (FrO Fr m) m x blk
 inj:∀ k i x k' i' x',m k i=some x→m k' i'=some x'→x.nil=false→x'.nil=false→x.b=x'.b→k=k'∧i=i'
 fr:∀ k i x,m k i=some x→x.nil=false→¬ Fr x.b∧x.b<w.heap.size
 within:∀ k,∀ b∈lookH h k,b.within (fun k=>memB k (keysF h))
 glob:GRel w (FrO Fr m)
structure SpecF [Glob] (P:Program) (f:Nat) (args:List V) (hin:List (Nat×List Blk)) (v:V) (hout:List (Nat×List Blk)):Prop where
 enter:∀ (cargs:Array Value) (w:World),(callFunc f cargs).run P w=.ok (.enter f cargs) w
 calls:∀ (Fr:Nat→Prop) (m:MM) (w:World) (cargs:List Value),cargs.length=args.length→(∀ b,Fr b→b<w.heap.size)→FRel Fr m hin w →
  (∀ (j:Nat) u c,args[j]?=some u→cargs[j]?=some c→VRel w (FrO Fr m) m u c)→(∀ u∈args,∀ k∈u.sites,memB k (keysF hin)=true) →
  Calls P f cargs.toArray w fun e w'=>∃ cv m',e=.returned cv∧VRel w' (FrO Fr m') m' v cv∧FRel Fr m' hout w'∧(∀ k i x,m' k i=some x→x.nil=false→Own m x.b∨w.heap.size≤x.b) ∧
   (∀ k,memB k (keysF hin)=true→∀ i x,m' k i=some x→∃ x0,m k i=some x0∧Adv x0 x)∧Ext (Own m) w w'
def RetF (T:List (Nat×TI)) (fn:Func) (v:V) (hout:List (Nat×List Blk)):Exit→St→Prop:=fun e st =>
 (match e with | .normal=>True | .ret=>True | _=>False)∧∃ rs st1 gs,resL T st fn.results.toList=some rs∧st1=(⟨[(0,one? rs)],st.heap,st.used⟩:St)∧LeG (keysF hout) ((keysF hout).map fun k=>(k,k)) [] gs st1 ⟨[(0,v)],hout,keysF hout⟩
theorem look_mem_iff {h:List (Nat×List Blk)}{k:Nat}:memB k (keysF h)=true↔(look h k).isSome=true:=
 ⟨fun hm=>look_isSome.2 (memB_true hm),fun hs=>memB_of (look_isSome.1 hs)⟩
theorem SpecF.body [Glob] {P:Program}{T:List (Nat×TI)}(hE:Env P T) {f:Nat}{fn:Func}{c:Code}(hf:P.funcs[f]?=some fn) (hb:fn.body=some c) (hname:(fn.name == "runtime.NumGoroutine")=false)
  {args:List V}{hin:List (Nat×List Blk)}{v:V}{hout:List (Nat×List Blk)}(hN:args.length≤fn.ntmps) (hK0:keysF hin=keysF hout) (hsin:∀ p∈hin,∀ b∈p.2,b.within (fun k=>memB k (keysF hin)))
  (hw:∀ Γ:Ctx,Γ.N=fn.ntmps→Γ.K0=keysF hin→W P T Γ c (RetF T fn v hout) ⟨envFrom 0 args,hin,keysF hin⟩):SpecF P f args hin v hout:=by
 have hname':¬ fn.name="runtime.NumGoroutine":=by simpa using hname
 refine ⟨fun cargs w=>by simp [callFunc,hf,hname',hb],fun Fr m w cargs hl hFr hH hv hs=>?_⟩;refine calls_of_wp hf hb ?_
 let Γ:Ctx:=⟨w,Own m,Fr,m,keysF hin,(fn.ntmps:Nat),fun _=>undef⟩
 have hFF:Forb Γ m=FrO Fr m:=rfl;have hr:Rel Γ m (St.den ⟨envFrom 0 args,hin,keysF hin⟩) { tmps:=cargs.toArray++Array.replicate (fn.ntmps-cargs.toArray.size) undef,defers:=[] } w:=by
  refine ⟨by simp [Γ];omega,fun t ht=>(by cases ht),rfl,fun t=>?_,hH.dom,hH.blk,hH.inj,fun k i x hx hn=>⟨(hH.fr k i x hx hn).1,(hH.fr k i x hx hn).2,.inl ⟨k,i,x,hx,hn,rfl⟩⟩,fun b hb=>⟨hFr b hb,fun ⟨k,i,x,hx,hn,e⟩=>(hH.fr k i x hx hn).1 (e ▸ hb)⟩,
   fun k _ i x hx=>⟨x,hx,.inl rfl⟩,Ext.refl _ _,fun t k hk=>?_,fun k hk=>?_,fun k i blk hb=>?_,fun k hk=>memB_of hk,hH.glob⟩
  ·simp only [St.den,lookE,look_envFrom,Nat.zero_le,if_true,Nat.sub_zero];cases ha:args[t]? with
   | none=>exact .dead _
   | some u =>
    have hlt:t<args.length:=(List.getElem?_eq_some_iff.1 ha).1;have hc:cargs[t]?=some cargs[t]:=List.getElem?_eq_getElem (by omega);have:=hv t u _ ha hc;rw [hFF];have hg:(cargs.toArray++Array.replicate (fn.ntmps-cargs.toArray.size) undef).getD t undef=cargs[t]:=by
     rw [Array.getD_eq_getD_getElem?,Array.getElem?_append_left (by simp;omega)];simp [hl,hlt]
    simp only;rw [hg];exact this
  ·simp only [St.den,lookE,look_envFrom,Nat.zero_le,if_true,Nat.sub_zero] at hk;cases ha:args[t]? with
   | none=>rw [ha] at hk;simp [V.sites] at hk
   | some u=>rw [ha] at hk;exact hs u (List.mem_of_getElem? ha) k hk
  ·simp only [St.den] at hk ⊢;refine look_mem_iff.2 ?_;cases hq:look hin k with
   | none=>rw [lookH,hq] at hk;simp at hk
   | some b=>rfl
  ·exact hH.within k blk (List.mem_of_getElem? hb)
 have hfin:∀ (a':Act) (w':World) (st':St) (m':MM) (rs:List V) (gs:List Nat),resL T st' fn.results.toList=some rs→LeG (keysF hout) ((keysF hout).map fun k=>(k,k)) [] gs ⟨[(0,one? rs)],st'.heap,st'.used⟩ ⟨[(0,v)],hout,keysF hout⟩→Rel Γ m' st'.den a' w' →
   a'.defers=[]∧∃ cv,(results fn a'.tmps).run P w'=.ok cv w'∧∃ cv' m',Ending.returned cv=.returned cv'∧VRel w' (FrO Fr m') m' v cv'∧FRel Fr m' hout w'∧(∀ k i x,m' k i=some x→x.nil=false→Own m x.b∨w.heap.size≤x.b) ∧
   (∀ k,memB k (keysF hin)=true→∀ i x,m' k i=some x→∃ x0,m k i=some x0∧Adv x0 x)∧Ext (Own m) w w':=by
  intro a' w' st' m' rs gs hrs hle hr';obtain ⟨cs,h1,h2,h3,h4⟩:=run_resL hE.table hr' _ _ hrs;have hrun:(results fn a'.tmps).run P w'=.ok (if h:cs.toArray.size=1 then cs.toArray[0] else .tuple cs.toArray) w':=by
   have hma:(fn.results.mapM (resSem a')).run P w'=.ok cs.toArray w':=by
    rw [Array.mapM_eq_mapM_toList,Sem.run_map,h1];rfl
   have hres:results fn a'.tmps=(do let vs ← fn.results.mapM (resSem a');pure (if h:vs.size=1 then vs[0] else .tuple vs)):=by
    unfold results;congr 1
   rw [hres];simp only [Sem.run_bind];rw [hma];rfl
  refine ⟨hr'.defers,_,hrun,?_⟩;have hone:VRel w' (Forb Γ m') m' (one? rs) (if h:cs.toArray.size=1 then cs.toArray[0] else .tuple cs.toArray):=by
   match rs,cs,h2,h3 with
   | [],[],_,_=>exact .tup [] [] rfl (by simp)
   | [v],[c],_,h3=>exact h3 0 v c rfl rfl
   | v::v2::vs,c::c2::cs,h2,h3=>exact .tup _ _ h2.symm h3
  have hsites:∀ k∈(one? rs).sites,memB k st'.used=true:=by
   intro k hk
   match rs,h4,hk with
   | [],_,hk=>simp [one?,V.sites,sitesL] at hk
   | [v],h4,hk=>exact h4 v (by simp) k hk
   | v::v2::vs,h4,hk =>
    simp only [one?,V.sites,sitesL_eq,List.mem_flatMap] at hk;obtain ⟨u,hu,hk⟩:=hk;exact h4 u hu k hk
  let Γ':Ctx:=⟨w,Own m,Fr,m,keysF hout,(1:Nat),fun _=>undef⟩
  generalize hcv:(if h:cs.toArray.size=1 then cs.toArray[0] else Value.tuple cs.toArray)=cv at hone;have hr2:Rel Γ' m' (St.den ⟨[(0,one? rs)],st'.heap,st'.used⟩) { tmps:=#[cv],defers:=[] } w':=by
   refine ⟨rfl,fun t ht=>(by cases ht),rfl,fun t=>?_,hr'.dom,hr'.heap,hr'.inj,hr'.fr,hr'.frw,fun k hk=>hr'.keep k (by rw [show Γ.K0=keysF hout from hK0];exact hk),hr'.ext,fun t k hk=>?_,hr'.useH,hr'.useB,fun k hk=>hr'.useK k (by rw [show Γ.K0=keysF hout from hK0];exact hk),hr'.glob⟩
   ·simp only [St.den,lookE,look_cons];by_cases ht:t=0
    ·subst ht;exact hone
    ·simp only [ht,if_false,look];exact .dead _
   ·simp only [St.den,lookE,look_cons] at hk;by_cases ht:t=0
    ·subst ht;exact hsites k hk
    ·simp only [ht,if_false,look] at hk;simp [V.sites] at hk
  obtain ⟨m2,hr3⟩:=hr2.leG hle;have hFF2:Forb Γ' m2=FrO Fr m2:=rfl;refine ⟨cv,m2,rfl,?_,⟨hr3.dom,hr3.heap,hr3.inj,fun k i x hx hn=>⟨(hr3.fr k i x hx hn).1,(hr3.fr k i x hx hn).2.1⟩,fun k b hb=>?_,hr3.glob⟩,fun k i x hx hn=>(hr3.fr k i x hx hn).2.2,fun k hk i x hx=>hr3.keep k (memB_true (show memB k (keysF hout)=true by rw [←hK0];exact hk)) i x hx,hr3.ext⟩
  ·exact hr3.env 0
  ·obtain ⟨i,hi⟩:=List.getElem?_of_mem hb;exact hr3.useB k i b hi
 refine wp_mono ((hw Γ rfl rfl).out m _ w hr) fun e a' w' ⟨st',m',⟨he,rs,st1,gs,hrs,hst,hle⟩,hr'⟩=>?_;subst hst;obtain ⟨hd,cv,h1,h2⟩:=hfin a' w' st' m' rs gs hrs hle hr';cases e<;>first
  | exact he.elim
  | exact ⟨hd,cv,h1,h2⟩
attribute [irreducible] RetF
def handF (h:Nat→List Blk):List (Nat×List Blk)→Prop
 | []=>True
 | (k,l)::r=>h k=l∧handF h r
theorem handF_get {h:Nat→List Blk}:∀ {r:List (Nat×List Blk)},handF h r→∀ k l,(k,l)∈r→h k=l
 | (j,c)::r,hh,k,l,hm=>by
  rcases List.mem_cons.1 hm with e | e
  ·cases e;exact hh.1
  ·exact handF_get hh.2 k l e
theorem keysF_look {h:List (Nat×List Blk)}{k:Nat}(hk:memB k (keysF h)=true):∃ l,look h k=some l∧(k,l)∈h:=by
 obtain ⟨l,hl⟩:=Option.isSome_iff_exists.1 (look_isSome.2 (memB_true hk));exact ⟨l,hl,look_mem hl⟩
def allUps (h:List (Nat×List Blk)):List Up:=h.map fun p=>.all p.1 p.2
theorem allUps_keys (h:List (Nat×List Blk)):(allUps h).map Up.key=keysF h:=by
 simp [allUps,keysF,List.map_map,Function.comp_def,Up.key]
structure CallFOK (h:Nat→List Blk) (hin:List (Nat×List Blk)) (v:V) (hout:List (Nat×List Blk)):Prop where
 keq:keysF hout=keysF hin
 nd:nodupB (keysF hin)=true
 hand:handF h hin
 vs:(v.sites.all fun k=>memB k (keysF hin))=true
theorem callF [Glob] {P:Program}{N:NB}{o:Oper}{c:Call}{fop:Operand}{ρ:Operand→V}{f:Nat}{caps args:List V}{h:Nat→List Blk}{hin hout:List (Nat×List Blk)}{v:V}(hop:o.op=.call c) (hc:c.callee=.value fop) (hfn:ρ fop=.fn f caps)
  (hd:dstOK N o.dst=true) (sp:SpecF P f args hin v hout) (hargs:LentL h [] (c.args.toList.map ρ++caps) args) (hs:(args.all fun u=>u.sites.all fun k=>memB k (keysF hin))=true) (sin:∀ p∈hin,∀ b∈p.2,b.within (fun k=>memB k (keysF hin))) (ne:∀ p∈hin,p.2≠[]) (ok:CallFOK h hin v hout) :
  GoodW P N o ρ h v (allUps hout) (keysF hin):=by
 intro Γ m s a w hN hr ho hg hu;obtain ⟨keq,nd,hand,vs⟩:=ok;obtain ⟨K,hK⟩:∃ K,K=keysF hin:=⟨_,rfl⟩
 rw [←hK] at hs vs keq nd sin;have hsh:∀ k,memB k K=true→∃ l,look hin k=some l∧s.heap k=l∧(k,l)∈hin:=fun k hk=>by
  obtain ⟨l,h1,h2⟩:=keysF_look (h:=hin) (hK ▸ hk);refine ⟨l,h1,?_,h2⟩;rw [hg k (hK ▸ memB_true hk)];exact handF_get hand k l h2
 have hkn:∀ k,memB k K=false→look hin k=none:=fun k hk=>look_none fun hm=>by
  have:memB k K=true:=by rw [hK];exact memB_of hm
  rw [hk] at this;cases this
 let mc:MM:=fun k i=>match memB k K with | true=>m k i | false=>none
 have hmc1:∀ k i,memB k K=true→mc k i=m k i:=fun k i hk=>by simp only [mc,hk]
 have hmc:∀ k i x,mc k i=some x→memB k K=true∧m k i=some x:=fun k i x hx=>by
  simp only [mc] at hx;split at hx
  ·rename_i hk;exact ⟨hk,hx⟩
  ·cases hx
 let Fr':Nat→Prop:=fun b=>Γ.Fr b∨∃ k i x,memB k K=false∧m k i=some x∧x.nil=false∧x.b=b
 have hFeq:∀ b,FrO Fr' mc b↔Forb Γ m b:=fun b=>by
  constructor
  ·rintro ((hb | ⟨k,i,x,_,hx,hn,hxb⟩) | ⟨k,i,x,hx,hn,hxb⟩)
   ·exact .inl hb
   ·exact .inr ⟨k,i,x,hx,hn,hxb⟩
   ·exact .inr ⟨k,i,x,(hmc k i x hx).2,hn,hxb⟩
  ·rintro (hb | ⟨k,i,x,hx,hn,hxb⟩)
   ·exact .inl (.inl hb)
   ·cases hk:memB k K with
    | true=>exact .inr ⟨k,i,x,by rw [hmc1 k i hk];exact hx,hn,hxb⟩
    | false=>exact .inl (.inr ⟨k,i,x,hk,hx,hn,hxb⟩)
 have hFeq':FrO Fr' mc=Forb Γ m:=funext fun b=>propext (hFeq b);have toC:∀ {v c},VRel w (Forb Γ m) m v c→VRel w (FrO Fr' mc) mc (v.ren (idK K)) c:=fun hv=>hv.tr (fun b _ hn=>⟨rfl,fun hf=>hn ((hFeq b).1 hf)⟩) (Nat.le_refl _) (fun _ _ _ h=>h) (fun k k' hk i x' hx'=>by
  obtain ⟨e,hk2⟩:=idK_some hk
  subst e
  rw [hmc1 k i hk2] at hx'
  exact ⟨x',hx',.inl rfl⟩)
 have hHin:FRel Fr' mc hin w:=by
  refine ⟨fun k i=>?_,fun k i blk hb=>?_,fun k i x k' i' x' hx hx' hn hn' hb=>hr.inj k i x k' i' x' (hmc k i x hx).2 (hmc k' i' x' hx').2 hn hn' hb,fun k i x hx hn=>?_,fun k b hb=>?_,hFeq' ▸ hr.glob⟩
  ·cases hk:memB k K with
   | true =>
    obtain ⟨l,h1,h2,_⟩:=hsh k hk;rw [hmc1 k i hk,lookH,h1,hr.dom k i,h2]
   | false=>simp [mc,hk,lookH,hkn k hk]
  ·cases hk:memB k K with
   | true =>
    obtain ⟨l,h1,h2,h3⟩:=hsh k hk;rw [lookH,h1] at hb;obtain ⟨x,hx,hB⟩:=hr.heap k i blk (by rw [h2];exact hb);refine ⟨x,by rw [hmc1 k i hk];exact hx,?_⟩;have:=BRel.ren (F':=FrO Fr' mc) (m':=mc) (ρ:=idK K) (fun s s' hs i x' hx'=>by
     obtain ⟨e,hk2⟩:=idK_some hs
     subst e
     rw [hmc1 s i hk2] at hx'
     exact ⟨x',hx',.inl rfl⟩) toC hB
    rwa [Blk.ren_idK (sin (k,l) h3 blk (List.mem_of_getElem? hb))] at this
   | false=>rw [lookH,hkn k hk] at hb;simp at hb
  ·obtain ⟨hk,hx⟩:=hmc k i x hx;obtain ⟨h1,h2,_⟩:=hr.fr k i x hx hn;refine ⟨fun hF=>?_,h2⟩;rcases hF with hF | ⟨k2,i2,x2,g1,hx2,hn2,hb2⟩
   ·exact h1 hF
   ·obtain ⟨rfl,_⟩:=hr.inj k2 i2 x2 k i x hx2 hx hn2 hn hb2;rw [hk] at g1;cases g1
  ·cases hk:memB k K with
   | true =>
    obtain ⟨l,h1,h2,h3⟩:=hsh k hk;rw [lookH,h1] at hb;rw [←hK];exact sin (k,l) h3 b hb
   | false=>rw [lookH,hkn k hk] at hb;simp at hb
 have hf:=hr.evalO fop;rw [ho fop (by simp [hop,Op.operands,Call.operands,hc]),hfn] at hf;generalize hcf:a.eval fop=cf at hf;cases hf with
 | fn f caps ccaps hl hcap =>
 have hrun:(execOp a.eval o).run P w=.ok (.enter f (c.args.map a.eval++ccaps.toArray)) w:=by
  simp [execOp,hop,resolve,hc,hcf,Deferred.ofValue,invoke,sp.enter]
 unfold Oper.wp;rw [hrun];simp only [Oper.upon];have harr:c.args.map a.eval++ccaps.toArray=((c.args.toList.map a.eval)++ccaps).toArray:=by
  cases hca:c.args;simp
 rw [harr];obtain ⟨hl1,hl2⟩:=hargs.get;refine (sp.calls Fr' mc w _ ?_ (fun b hb=>?_) hHin (fun j u x hj hx=>?_) (fun u hu k hk=>by rw [←hK];exact List.all_eq_true.1 (List.all_eq_true.1 hs u hu) k hk)).mono fun e w' ⟨cv,m',he,hcv,hH,hnew,hkeep,hext⟩=>?_
 ·simp only [List.length_append,List.length_map] at hl1 ⊢;omega
 ·rcases hb with hb | ⟨k,i,x,_,hx,hn,rfl⟩
  ·have h1:=(hr.frw b hb).1;have h2:=hr.ext.size;omega
  ·exact (hr.fr k i x hx hn).2.1
 ·have hjl:j<(c.args.toList.map ρ++caps).length:=by rw [hl1];exact (List.getElem?_eq_some_iff.1 hj).1
  have hu0:=List.getElem?_eq_getElem hjl;generalize hgu:(c.args.toList.map ρ++caps)[j]=u0 at hu0;have hlent:=hl2 j u0 _ hu0 hj;have hrel:VRel w (Forb Γ m) m u0 x:=by
   rcases Nat.lt_or_ge j (c.args.toList.map ρ).length with hlt | hge
   ·rw [List.getElem?_append_left hlt,List.getElem?_map,Option.map_eq_some_iff] at hu0;rw [List.getElem?_append_left (by simpa using hlt),List.getElem?_map,Option.map_eq_some_iff] at hx;obtain ⟨y,hy,rfl⟩:=hu0;obtain ⟨y',hy',rfl⟩:=hx;rw [hy] at hy';cases hy';rw [←ho y (by
     have:=List.mem_of_getElem? hy
     simp only [hop,Op.operands,Call.operands]
     exact Array.mem_append_right _ (Array.mem_toList_iff.1 this))]
    exact hr.evalO y
   ·rw [List.getElem?_append_right hge] at hu0;rw [List.getElem?_append_right (by simpa using hge)] at hx;simp only [List.length_map] at hu0 hx;exact hcap _ _ _ hu0 hx
  have h2:=Lent.rel hr (H:=h) (bo:=[]) (F':=Forb Γ m) (fun k hk=>by simp [memB] at hk) (fun b hb=>hb) (fun k i x hk=>by simp [memB] at hk) hlent hrel;have h3:=toC h2
  rwa [V.ren_idK fun k hk=>List.all_eq_true.1 (List.all_eq_true.1 hs u (List.mem_of_getElem? hj)) k hk] at h3
 ·subst he;have hko:∀ k,memB k K=true→∃ l,look hout k=some l∧(k,l)∈hout:=fun k hk=>keysF_look (by rw [keq];exact hk)
  let m2:MM:=fun k i=>match memB k K with | true=>m' k i | false=>m k i
  have hm2s:∀ k i,memB k K=true→m2 k i=m' k i:=fun k i hk=>by simp only [m2,hk]
  have hm2n:∀ k i,memB k K=false→m2 k i=m k i:=fun k i hk=>by simp only [m2,hk]
  have hchain:∀ k,s.used k=true→∀ i x',m2 k i=some x'→∃ x,m k i=some x∧Adv x x':=fun k hk i x' hx'=>by
   cases hσk:memB k K with
   | false=>rw [hm2n k i hσk] at hx';exact ⟨x',hx',.inl rfl⟩
   | true =>
    rw [hm2s k i hσk] at hx';obtain ⟨x0,g1,g2⟩:=hkeep k (hK ▸ hσk) i x' hx';rw [hmc1 k i hσk] at g1;exact ⟨x0,g1,g2⟩
  have hOmc:∀ b,Own mc b→Own m b:=fun b ⟨k,i,x,hx,hn,hb⟩=>⟨k,i,x,(hmc k i x hx).2,hn,hb⟩
  have hown2:∀ b,b<w.heap.size→Own m2 b→Own m b:=fun b hb ⟨k,i,x,hx,hn,hxb⟩=>by
   cases hσk:memB k K with
   | false=>rw [hm2n k i hσk] at hx;exact ⟨k,i,x,hx,hn,hxb⟩
   | true =>
    rw [hm2s k i hσk] at hx;rcases hnew k i x hx hn with h1 | h1
    ·exact hOmc b (hxb ▸ h1)
    ·omega
  have hmm:∀ k0 k,idK K k0=some k→∀ i x',m2 k i=some x'→∃ x,m' k0 i=some x∧Adv x x':=fun k0 k hk i x' hx'=>by
   obtain ⟨e,hk2⟩:=idK_some hk;subst e;rw [hm2s k0 i hk2] at hx';exact ⟨x',hx',.inl rfl⟩
  have toR:∀ {v c},VRel w' (FrO Fr' m') m' v c→VRel w' (Forb Γ m2) m2 (v.ren (idK K)) c:=fun hv=>by
   refine hv.tr (fun b _ hn=>⟨rfl,fun hf=>hn ?_⟩) (Nat.le_refl _) (fun _ _ _ h=>h) hmm;rcases hf with hf | ⟨k,i,x,hx,hnl,hxb⟩
   ·exact .inl (.inl hf)
   ·cases hσk:memB k K with
    | false=>rw [hm2n k i hσk] at hx;exact .inl (.inr ⟨k,i,x,hσk,hx,hnl,hxb⟩)
    | true=>rw [hm2s k i hσk] at hx;exact .inr ⟨k,i,x,hx,hnl,hxb⟩
  have hnd:nodupB ((allUps hout).map Up.key)=true:=by rw [allUps_keys,keq];exact nd
  have hA:∀ k l,(k,l)∈hout→(s.ups (allUps hout)).heap k=l:=fun k l hk=>by
   have:=ups_one (allUps hout) s (.all k l) hnd (List.mem_map.2 ⟨(k,l),hk,rfl⟩);simpa only [Up.key,Up.res] using this
  have hB:∀ k,memB k K=false→(s.ups (allUps hout)).heap k=s.heap k:=fun k hk=>ups_other _ s k fun u hu e=>by
   have h1:k∈keysF hout:=by rw [←allUps_keys];exact List.mem_map.2 ⟨u,hu,e⟩
   rw [keq] at h1;rw [memB_of h1] at hk;cases hk
  have hKused:∀ k,memB k K=true→s.used k=true:=fun k hk=>by
   obtain ⟨l,h1,h2,h3⟩:=hsh k hk;exact hr.useH k (by rw [h2];exact ne (k,l) h3)
  have hsize:=hext.size;have hkeepw:∀ k i x,memB k K=false→m k i=some x→x.nil=false→w'.heap[x.b]?=w.heap[x.b]?:=fun k i x hk hx hn=>hext.block x.b (hr.fr k i x hx hn).2.1 fun ⟨k2,i2,x2,hx2,hn2,hb2⟩=>by
   obtain ⟨h3,hx3⟩:=hmc k2 i2 x2 hx2;obtain ⟨rfl,_⟩:=hr.inj k2 i2 x2 k i x hx3 hx hn2 hn hb2;rw [h3] at hk;cases hk
  have hr':Rel Γ m2 (s.ups (allUps hout)) a w':=by
   refine hr.change (fun b hb hn=>hext.block b hb fun ho=>hn (hOmc b ho)) hext.size hext.shape hext.os hext.tape hext.output hchain hown2 (upsEnv _ _) (fun k hk=>(upsMade _ _ _).2 (.inl hk)) (fun k i=>?_) (fun k i blk' hb=>?_) (fun k i x k' i' x' hx hx' hn hn' hbb=>?_) (fun k i x hx hn=>?_) (fun k hk i x hx=>?_) (fun k hk=>?_) (fun k i blk' hb=>?_)
   ·cases hσk:memB k K with
    | false=>rw [hm2n k i hσk,hB k hσk];exact hr.dom k i
    | true =>
     obtain ⟨l,h1,h2⟩:=hko k hσk;rw [hm2s k i hσk,hA k l h2,hH.dom k i,lookH,h1]
   ·cases hσk:memB k K with
    | false =>
     rw [hB k hσk] at hb;obtain ⟨x,hx,_⟩:=hr.heap k i blk' hb;exact ⟨x,by rw [hm2n k i hσk];exact hx,.inl ⟨hb,hx,hkeepw k i x hσk hx⟩⟩
    | true =>
     obtain ⟨l,h1,h2⟩:=hko k hσk;rw [hA k l h2] at hb;have hb':(lookH hout k)[i]?=some blk':=by rw [lookH,h1];exact hb
     obtain ⟨x,hx,hBR⟩:=hH.blk k i blk' hb';refine ⟨x,by rw [hm2s k i hσk];exact hx,.inr ?_⟩;have h5:=BRel.ren hmm toR hBR
     rwa [Blk.ren_idK (by have:=hH.within k blk' (List.mem_of_getElem? hb');rwa [keq] at this)] at h5
   ·have mixed:∀ k i x k' i' x',memB k K=false→m k i=some x→memB k' K=true→m' k' i'=some x'→x.nil=false→x'.nil=false→x.b=x'.b→False:=by
     intro k i x k' i' x' hk hx hk0 hx' hn hn' hbb;have hlt:=(hr.fr k i x hx hn).2.1;rcases hnew k' i' x' hx' hn' with ⟨k2,i2,x2,hx2,hn2,hb2⟩ | hge
     ·obtain ⟨h3,hx3⟩:=hmc k2 i2 x2 hx2;obtain ⟨rfl,_⟩:=hr.inj k2 i2 x2 k i x hx3 hx hn2 hn (hb2.trans hbb.symm);rw [hk] at h3;cases h3
     ·omega
    cases hσk:memB k K with
    | false =>
     rw [hm2n k i hσk] at hx;cases hσk':memB k' K with
     | false=>rw [hm2n k' i' hσk'] at hx';exact hr.inj k i x k' i' x' hx hx' hn hn' hbb
     | true =>
      rw [hm2s k' i' hσk'] at hx';exact (mixed k i x k' i' x' hσk hx hσk' hx' hn hn' hbb).elim
    | true =>
     rw [hm2s k i hσk] at hx;cases hσk':memB k' K with
     | false =>
      rw [hm2n k' i' hσk'] at hx';exact (mixed k' i' x' k i x hσk' hx' hσk hx hn' hn hbb.symm).elim
     | true =>
      rw [hm2s k' i' hσk'] at hx';exact hH.inj k i x k' i' x' hx hx' hn hn' hbb
   ·cases hσk:memB k K with
    | false =>
     rw [hm2n k i hσk] at hx;obtain ⟨h1,h2,h3⟩:=hr.fr k i x hx hn;exact ⟨h1,Nat.lt_of_lt_of_le h2 hsize,h3⟩
    | true =>
     rw [hm2s k i hσk] at hx;obtain ⟨h1,h2⟩:=hH.fr k i x hx hn;refine ⟨fun hf=>h1 (.inl hf),h2,?_⟩;rcases hnew k i x hx hn with ⟨k2,i2,x2,hx2,hn2,hb2⟩ | hge
     ·obtain ⟨h3,hx3⟩:=hmc k2 i2 x2 hx2;have:=(hr.fr k2 i2 x2 hx3 hn2).2.2
      rwa [hb2] at this
     ·have:=hr.ext.size;exact .inr (by omega)
   ·obtain ⟨x1,h1,h2⟩:=hchain k (hr.useK k hk) i x hx;obtain ⟨x0,h3,h4⟩:=hr.keep k hk i x1 h1;exact ⟨x0,h3,h4.trans h2⟩
   ·cases hσk:memB k K with
    | false=>rw [hB k hσk] at hk;exact (upsMade _ _ _).2 (.inl (hr.useH k hk))
    | true=>exact (upsMade _ _ _).2 (.inl (hKused k hσk))
   ·cases hσk:memB k K with
    | false=>rw [hB k hσk] at hb;exact Blk.within_mono (fun j hj=>(upsMade _ _ _).2 (.inl hj)) (hr.useB k i blk' hb)
    | true =>
     obtain ⟨l,h1,h2⟩:=hko k hσk;rw [hA k l h2] at hb;have hb':(lookH hout k)[i]?=some blk':=by rw [lookH,h1];exact hb
     exact Blk.within_mono (fun j hj=>(upsMade _ _ _).2 (.inl (hKused j (by rw [keq] at hj;exact hj)))) (hH.within k blk' (List.mem_of_getElem? hb'))
  refine ⟨m2,?_⟩;refine hr'.putO (by rw [hN];exact hd) ?_ fun q hq=>(upsMade _ _ _).2 (.inl (hKused q (List.all_eq_true.1 vs q hq)));have:=toR hcv
  rwa [V.ren_idK fun k hk=>List.all_eq_true.1 vs k hk] at this
theorem gCF [Glob] {P:Program}{N:NB}{o:Oper}{c:Call}{fop:Operand}{ρ:Operand→V}{f:Nat}{caps args:List V}{h:Nat→List Blk}{hin hout:List (Nat×List Blk)}{v:V}{K:Kont}(sp:SpecF P f args hin v hout) (sin:∀ p∈hin,∀ b∈p.2,b.within (fun k=>memB k (keysF hin))) (ne:∀ p∈hin,p.2≠[])
  (k:K v (allUps hout) (keysF hin)) (hop:o.op=.call c:=by exact rfl) (hc:c.callee=.value fop:=by exact rfl) (hfn:ρ fop=.fn f caps:=by exact rfl)
  (hd:dstOK N o.dst=true:=by kernel_rfl) (hargs:LentL h [] (c.args.toList.map ρ++caps) args:=by repeat' (first | exact trivial | exact Lent.refl _ | exact Lent.norm _ | apply And.intro))
  (hs:(args.all fun u=>u.sites.all fun k=>memB k (keysF hin))=true:=by exact rfl) (ok:CallFOK h hin v hout:=by exact ⟨rfl,rfl,(by repeat' (first | exact trivial | rfl | apply And.intro)),rfl⟩):∃ v us rd,GoodW P N o ρ h v us rd∧K v us rd:=
 ⟨_,_,_,callF hop hc hfn hd sp hargs hs sin ne ok,k⟩
theorem Ref.rekm [Glob] {Γ:Ctx}{st:St}(k:Nat) {es:List (Nat×V×V)}{clock:Nat}{ks:Option (List Nat)}(l:List Nat) (hk:lookH st.heap k=[.map es clock ks])
  (hs:∀ (i:Nat) b key v,es[i]?=some (b,key,v)→∀ s∈v.sites,s∈l) (hu:∀ q∈l,memB q st.used=true):Ref Γ st ⟨st.env,(k,[.map es clock (some l)])::st.heap,st.used⟩:=by
 intro m a w hrel;have hbl:(st.den.heap k)[0]?=some (.map es clock ks):=by simp [St.den,hk]
 obtain ⟨x,hx,hB⟩:=hrel.heap k 0 _ hbl;have hB:MapOK w (Forb Γ m) m x es clock ks:=hB;have hB2:MapOK w (Forb Γ m) m x es clock (some l):=by
  unfold MapOK at hB ⊢;obtain ⟨h0,hn,ents,h1,h2,h3,h4,h5⟩:=hB;refine ⟨h0,hn,ents,h1,h2,h3,h4,fun i b key v hi=>?_⟩;obtain ⟨e,g1,g2,g3,g4,g5,g6⟩:=h5 i b key v hi;exact ⟨e,g1,g2,g3,fun l' hl=>by cases hl;exact hs i b key v hi,g5,g6⟩
 have h3:=hrel.at k 0 hbl hx x (.map es clock (some l)) (.inl rfl) (w':=w) (fun _ _ _=>rfl) (Nat.le_refl _) (fun _ _ _ h=>h) rfl ⟨rfl,fun _=>Nat.le_refl _⟩ rfl (fun hn=>.inl ⟨hn,rfl⟩) (fun q hq=>hu q hq) (by rw [MM.at_self hx];exact hB2);refine ⟨MM.at m k 0 x,?_⟩;have e:St.den ⟨st.env,(k,[.map es clock (some l)])::st.heap,st.used⟩=st.den.at k 0 (.map es clock (some l)):=by
  have h4:=St.den_ups [.upd k 0 (.map es clock (some l))] st;simp only [St.ups,ASt.ups,List.foldl_cons,List.foldl_nil,ASt.up] at h4;rw [←h4,hk];rfl
 rw [e];exact h3
theorem Ref.rekm' [Glob] {Γ:Ctx}{st:St}(k:Nat) {es es1:List (Nat×V×V)}{clock:Nat}{ks:Option (List Nat)}(l:List Nat) (hk:lookH st.heap k=[.map es clock ks]) (he:es=es1)
  (hs:∀ (i:Nat) b key v,es1[i]?=some (b,key,v)→∀ s∈v.sites,s∈l) (hu:∀ q∈l,memB q st.used=true):Ref Γ st ⟨st.env,(k,[.map es1 clock (some l)])::st.heap,st.used⟩:=by
 subst he;exact Ref.rekm k l hk hs hu
theorem BRel.fam {w w':World}{F F':Nat→Prop}{m m':MM}{x:MB}{b:Blk}(hf:b.famB=true) (hd:∀ b,b<w.heap.size→¬ F b→w'.heap[b]?=w.heap[b]?∧¬ F' b) (hz:w.heap.size≤w'.heap.size)
  (hs:∀ b e n,w.shape? b=some (e,n)→w'.shape? b=some (e,n)) (hx:x.nil=false→w'.heap[x.b]?=w.heap[x.b]?) (h:BRel w F m x b):BRel w' F' m' x b:=by
 cases b with
 | rows sz rs ks=>cases ks with
  | none=>cases hf
  | some l=>cases l with
   | cons _ _=>cases hf
   | nil =>
    obtain ⟨h1,h2,h3,h4,h5,h6⟩:=h;refine ⟨h1,h2,h3,h4,fun hn=>by rw [hx hn];exact h5 hn,fun i r j v hi hj=>?_⟩;obtain ⟨g1,g2,c,g3,g5,g4⟩:=h6 i r j v hi hj;have h0:v.sites=[]:=List.eq_nil_iff_forall_not_mem.2 fun q hq=>by have:=g2 [] rfl q hq;cases this
    have hn:x.nil=false:=by
     cases hq:x.nil with
     | false=>rfl
     | true=>rw [h4 hq] at hi;simp at hi
    exact ⟨g1,g2,c,by rw [cell?_of_heap (hx hn)];exact g3,g5,g4.pure hd hz hs h0⟩
 | map es clock ks=>cases ks with
  | none=>cases hf
  | some l=>cases l with
   | cons _ _=>cases hf
   | nil =>
    obtain ⟨h1,h2,ents,h3,h4,h5,h6,h7⟩:=h;refine ⟨h1,h2,ents,by rw [hx h1];exact h3,h4,h5,h6,fun i b k v hi=>?_⟩;obtain ⟨e,g1,g0,g2,g3,g4,g5⟩:=h7 i b k v hi;have h0:v.sites=[]:=List.eq_nil_iff_forall_not_mem.2 fun q hq=>by have:=g3 [] rfl q hq;cases this
    exact ⟨e,g1,g0,g2,g3,g4.pure hd hz hs g2,g5.pure hd hz hs h0⟩
 | iter=>cases hf
 | gone=>cases hf
def famArgs (F k:Nat):List V→List V→Prop
 | [],[]=>True
 | u'::l',u::l=>((∃ o p n,u'=.osl F k o p n∧u=.osl 0 0 o p n)∨(u'=u∧u.sites=[]))∧famArgs F k l' l
 | _,_=>False
theorem famArgs.len {F k:Nat}:∀ {l' l:List V},famArgs F k l' l→l'.length=l.length
 | [],[],_=>rfl
 | _::_,_::_,h=>by simp [famArgs.len h.2]
 | [],_::_,h=>h.elim
 | _::_,[],h=>h.elim
theorem famArgs.get {F k:Nat}:∀ {l' l:List V},famArgs F k l' l→∀ (j:Nat) u,l[j]?=some u→∃ u',l'[j]?=some u'∧((∃ o p n,u'=.osl F k o p n∧u=.osl 0 0 o p n)∨(u'=u∧u.sites=[]))
 | [],[],_,j,u,hj=>by simp at hj
 | u'::_,_::_,h,0,u,hj=>by cases hj;exact ⟨u',rfl,h.1⟩
 | _::_,_::_,h,j+1,u,hj=>famArgs.get h.2 j u hj
 | [],_::_,h,_,_,_=>h.elim
 | _::_,[],h,_,_,_=>h.elim
theorem Spec.fam [Glob] {P:Program}{f:Nat}{args args':List V}{b b':Blk}{v:V}(sp:Spec P f args [(0,b)] v [(0,b')]) (F k:Nat) (L:List Blk)
  (hL:∀ x∈L,x.famB=true) (hk:L[k]?=some b) (hb':b'.famB=true) (hv:v.sites=[]) (hargs:famArgs F k args' args):SpecF P f args' [(F,L)] v [(F,L.set k b')]:=by
 refine ⟨sp.enter,fun Fr m w cargs hl hF hH ha hs=>?_⟩;have hkl:k<L.length:=(List.getElem?_eq_some_iff.1 hk).1;have hb:b.famB=true:=hL b (List.mem_of_getElem? hk);have hlk:∀ s,lookH [(F,L)] s=if s=F then L else []:=fun s=>by
  unfold lookH;rw [look_cons];by_cases e:s=F<;>simp [e,look]
 have hlk2:∀ s,lookH [(F,L.set k b')] s=if s=F then L.set k b' else []:=fun s=>by
  unfold lookH;rw [look_cons];by_cases e:s=F<;>simp [e,look]
 have hl0:∀ (q:Blk) s,lookH (heapL [(0,q)]) s=if s=0 then [q] else []:=fun q s=>by
  rw [lookH_heapL,look_cons];by_cases e:s=0<;>simp [e,look]
 have hmF:∀ s i y,m s i=some y→s=F∧i<L.length:=fun s i y hy=>by
  have h1:=(hH.dom s i).1 (by rw [hy];rfl);rw [hlk] at h1;by_cases e:s=F
  ·rw [if_pos e] at h1;exact ⟨e,h1⟩
  ·rw [if_neg e] at h1;simp at h1
 let m0:MM:=fun s i=>if s=0∧i=0 then m F k else none
 have hm0:∀ s i y,m0 s i=some y→s=0∧i=0∧m F k=some y:=fun s i y hy=>by
  simp only [m0] at hy;split at hy
  ·rename_i e;exact ⟨e.1,e.2,hy⟩
  ·cases hy
 let Fr0:Nat→Prop:=fun q=>Fr q∨∃ i y,i≠k∧m F i=some y∧y.nil=false∧y.b=q
 have hOwn0:∀ q,Own m0 q→Own m q:=fun q ⟨s,i,y,hy,hn,he⟩=>⟨F,k,y,(hm0 s i y hy).2.2,hn,he⟩
 have hF1:∀ q,FrO Fr0 m0 q→FrO Fr m q:=fun q h=>by
  rcases h with (h | ⟨i,y,_,hy,hn,he⟩) | h
  ·exact .inl h
  ·exact .inr ⟨F,i,y,hy,hn,he⟩
  ·exact .inr (hOwn0 q h)
 have hF2:∀ q,FrO Fr m q→FrO Fr0 m0 q:=fun q h=>by
  rcases h with h | ⟨s,i,y,hy,hn,he⟩
  ·exact .inl (.inl h)
  ·obtain ⟨rfl,_⟩:=hmF s i y hy;by_cases e:i=k
   ·subst e;exact .inr ⟨0,0,y,by simp [m0,hy],hn,he⟩
   ·exact .inl (.inr ⟨i,y,e,hy,hn,he⟩)
 obtain ⟨x,hx,hB⟩:=hH.blk F k b (by rw [hlk,if_pos rfl];exact hk);have hH0:HRel Fr0 m0 [(0,b)] w:=by
  refine ⟨fun s i=>?_,fun s i blk hbk=>?_,fun s i y s' i' y' h1 h2 _ _ _=>?_,fun s i y hy hn=>?_,fun p hp=>?_,hH.glob.tr (fun q _ hn=>⟨rfl,fun h=>hn (hF1 q h)⟩) (Nat.le_refl _)⟩
  ·rw [hl0];by_cases e:s=0
   ·subst e;simp only [m0,if_true,List.length_singleton,true_and];by_cases e2:i=0
    ·simp [e2,hx]
    ·simp [e2]
   ·simp [m0,e]
  ·rw [hl0] at hbk;by_cases e:s=0
   ·subst e;rw [if_pos rfl] at hbk;cases i with
    | succ i=>simp at hbk
    | zero =>
     simp at hbk;subst hbk;exact ⟨x,by simp [m0,hx],hB.fam hb (fun q _ hn=>⟨rfl,fun h=>hn (hF1 q h)⟩) (Nat.le_refl _) (fun _ _ _ h=>h) fun _=>rfl⟩
   ·rw [if_neg e] at hbk;simp at hbk
  ·obtain ⟨rfl,rfl,_⟩:=hm0 s i y h1;obtain ⟨rfl,rfl,_⟩:=hm0 s' i' y' h2;exact ⟨rfl,rfl⟩
  ·obtain ⟨_,_,h1⟩:=hm0 s i y hy;obtain ⟨h2,h3⟩:=hH.fr F k y h1 hn;refine ⟨fun h=>?_,h3⟩;rcases h with h | ⟨i',y',hne,hy',hn',he⟩
   ·exact h2 h
   ·exact hne (hH.inj F i' y' F k y hy' h1 hn' hn he).2
  ·simp only [List.mem_singleton] at hp;subst hp;exact famWithin hb
 have h0:=sp.calls Fr0 m0 w cargs (by rw [hl,hargs.len]) (fun q hq=>by
  rcases hq with hq | ⟨i,y,_,hy,hn,he⟩
  ·exact hF q hq
  ·rw [←he];exact (hH.fr F i y hy hn).2) hH0 (fun j u c hj hc=>by
  obtain ⟨u',hu',h⟩:=hargs.get j u hj
  have h1:=ha j u' c hu' hc
  rcases h with ⟨o,p,n,rfl,rfl⟩ | ⟨rfl,hs0⟩
  ·cases h1 with
   | osl _ _ _ _ _ _ hc h =>
    refine .osl _ _ _ _ _ _ hc fun y hy=>?_
    exact h y (hm0 _ _ _ hy).2.2
  ·exact h1.pure (fun q _ hn=>⟨rfl,fun h=>hn (hF1 q h)⟩) (Nat.le_refl _) (fun _ _ _ h=>h) hs0) (fun u hu s hs=>by
  obtain ⟨j,hj⟩:=List.getElem?_of_mem hu
  obtain ⟨u',_,h⟩:=hargs.get j u hj
  rcases h with ⟨o,p,n,rfl,rfl⟩ | ⟨rfl,hs0⟩
  ·simp only [V.sites,List.mem_singleton] at hs
   subst hs;rfl
  ·rw [hs0] at hs;cases hs)
 refine h0.mono fun e w' ⟨cv,m0',he,hv0,hH',hown,hadv,hext⟩=>?_
 let m':MM:=fun s i=>if s=F then (if i=k then m0' 0 0 else m F i) else none
 have hm':∀ s i y,m' s i=some y→s=F∧((i=k∧m0' 0 0=some y)∨(i≠k∧m F i=some y)):=fun s i y hy=>by
  simp only [m'] at hy;split at hy
  ·rename_i e;split at hy
   ·rename_i e2;exact ⟨e,.inl ⟨e2,hy⟩⟩
   ·rename_i e2;exact ⟨e,.inr ⟨e2,hy⟩⟩
  ·cases hy
 have hF3:∀ q,FrO Fr m' q→FrO Fr0 m0' q:=fun q h=>by
  rcases h with h | ⟨s,i,y,hy,hn,he⟩
  ·exact .inl (.inl h)
  ·rcases (hm' s i y hy).2 with ⟨_,h1⟩ | ⟨h1,h2⟩
   ·exact .inr ⟨0,0,y,h1,hn,he⟩
   ·exact .inl (.inr ⟨i,y,h1,h2,hn,he⟩)
 have hnew:∀ y,m0' 0 0=some y→y.nil=false→Own m y.b∨w.heap.size≤y.b:=fun y hy hn=>(hown 0 0 y hy hn).imp (hOwn0 _) id;have hd:∀ q,q<w.heap.size→¬ FrO Fr m q→w'.heap[q]?=w.heap[q]?∧¬ FrO Fr m' q:=fun q hq hn=>by
  refine ⟨hext.block q hq fun h=>hn (.inr (hOwn0 q h)),fun h=>?_⟩;rcases h with h | ⟨s,i,y,hy,hy0,he2⟩
  ·exact hn (.inl h)
  ·rcases (hm' s i y hy).2 with ⟨_,h1⟩ | ⟨h1,h2⟩
   ·rcases hnew y h1 hy0 with h | h
    ·rw [he2] at h;exact hn (.inr h)
    ·omega
   ·exact hn (.inr ⟨F,i,y,h2,hy0,he2⟩)
 have hd':∀ q,q<w'.heap.size→¬ FrO Fr0 m0' q→w'.heap[q]?=w'.heap[q]?∧¬ FrO Fr m' q:=fun q _ hn=>⟨rfl,fun h=>hn (hF3 q h)⟩
 refine ⟨cv,m',he,hv0.pure hd' (Nat.le_refl _) (fun _ _ _ h=>h) hv,⟨fun s i=>?_,fun s i blk hbk=>?_,fun s i y s' i' y' h1 h2 n1 n2 hbb=>?_,fun s i y hy hn=>?_,fun s q hq=>?_,hH'.glob.tr hd' (Nat.le_refl _)⟩,fun s i y hy hn=>?_,fun s hs i y hy=>?_,⟨hext.os,hext.tape,hext.output,hext.size,fun q hq hn=>hext.block q hq fun h=>hn (hOwn0 q h),hext.shape⟩⟩
 ·rw [hlk2];by_cases e:s=F
  ·subst e;rw [if_pos rfl,List.length_set];by_cases e2:i=k
   ·subst e2;have h1:=hH'.dom 0 0;rw [hl0] at h1;simp only [m',if_true];rw [h1];simp [hkl]
   ·have h1:=hH.dom s i;rw [hlk,if_pos rfl] at h1;simp only [m',if_true,if_neg e2];exact h1
  ·simp [m',e]
 ·rw [hlk2] at hbk;by_cases e:s=F
  ·subst e;rw [if_pos rfl,List.getElem?_set] at hbk;by_cases e2:k=i
   ·subst e2;rw [if_pos rfl,if_pos hkl] at hbk;cases hbk;obtain ⟨y,hy,hBy⟩:=hH'.blk 0 0 b' (by rw [hl0];rfl);exact ⟨y,by simp [m',hy],hBy.fam hb' hd' (Nat.le_refl _) (fun _ _ _ h=>h) fun _=>rfl⟩
   ·rw [if_neg e2] at hbk;obtain ⟨y,hy,hBy⟩:=hH.blk s i blk (by rw [hlk,if_pos rfl];exact hbk);refine ⟨y,by simp [m',Ne.symm e2,hy],hBy.fam (hL blk (List.mem_of_getElem? hbk)) hd hext.size hext.shape fun hn=>hext.block y.b (hH.fr s i y hy hn).2 fun h=>?_⟩;obtain ⟨s1,i1,y1,hy1,hn1,he1⟩:=h;exact e2 (hH.inj s k y1 s i y (hm0 _ _ _ hy1).2.2 hy hn1 hn he1).2
  ·rw [if_neg e] at hbk;simp at hbk
 ·obtain ⟨rfl,h1⟩:=hm' s i y h1;obtain ⟨rfl,h2⟩:=hm' s' i' y' h2;refine ⟨rfl,?_⟩;have cross:∀ (j:Nat) (z z':MB),m0' 0 0=some z→m s' j=some z'→z.nil=false→z'.nil=false→z.b=z'.b→j=k:=fun j z z' hz hz' n1 n2 hbb=>by
   rcases hown 0 0 z hz n1 with ⟨s1,i1,y1,hy1,hn1,he1⟩ | h
   ·exact ((hH.inj s' k y1 s' j z' (hm0 _ _ _ hy1).2.2 hz' hn1 n2 (he1.trans hbb)).2).symm
   ·have:=(hH.fr s' j z' hz' n2).2;omega
  rcases h1 with ⟨e1,h1⟩ | ⟨e1,h1⟩<;>rcases h2 with ⟨e2,h2⟩ | ⟨e2,h2⟩
  ·rw [e1,e2]
  ·exact absurd (cross i' y y' h1 h2 n1 n2 hbb) e2
  ·exact absurd (cross i y' y h2 h1 n2 n1 hbb.symm) e1
  ·exact (hH.inj s' i y s' i' y' h1 h2 n1 n2 hbb).2
 ·obtain ⟨rfl,h1 | h1⟩:=hm' s i y hy
  ·obtain ⟨h2,h3⟩:=hH'.fr 0 0 y h1.2 hn;exact ⟨fun h=>h2 (.inl h),h3⟩
  ·obtain ⟨h2,h3⟩:=hH.fr s i y h1.2 hn;exact ⟨h2,Nat.lt_of_lt_of_le h3 hext.size⟩
 ·rw [hlk2] at hq;by_cases e:s=F
  ·rw [if_pos e] at hq;obtain ⟨i,hi⟩:=List.getElem?_of_mem hq;rw [List.getElem?_set] at hi;split at hi
   ·rename_i e2;subst e2;cases hi;exact famWithin hb'
   ·exact famWithin (hL q (List.mem_of_getElem? hi))
  ·rw [if_neg e] at hq;cases hq
 ·rcases (hm' s i y hy).2 with ⟨_,h1⟩ | ⟨_,h1⟩
  ·exact hnew y h1 hn
  ·exact .inl ⟨F,i,y,h1,hn,rfl⟩
 ·obtain ⟨rfl,⟨rfl,h1⟩ | ⟨_,h1⟩⟩:=hm' s i y hy
  ·obtain ⟨x0,hx0,had⟩:=hadv 0 rfl 0 y h1;exact ⟨x0,(hm0 _ _ _ hx0).2.2,had⟩
  ·exact ⟨y,h1,.inl rfl⟩
theorem Ref.adoptB [Glob] {Γ:Ctx}{st:St}(q k d:Nat) {l n sz:Nat}{rows:List (List V)}{ks:Option (List Nat)}(hq:lookH st.heap q=[.rows 1 [[.osl k 0 0 l n]] none]) (hh:lookH st.heap k=[.rows sz rows ks]) (hn:n=rows.length) (hl:l≤n)
  (hd:memB d st.used=false) (hqk:Nat.beq q k=false):Ref Γ st ⟨st.env,(q,[.rows 1 [[.osl d 0 0 l l]] none])::(d,[.rows sz (rows.take l) ks])::(k,[.gone])::st.heap,d::st.used⟩:=by
 intro m a w hr;have hqk':q≠k:=fun e=>by rw [e,Nat.beq_refl] at hqk;cases hqk
 have hd':st.den.used d=false:=hd;have hqd':q≠d:=fun e=>by
  have h1:memB q st.used=true:=hr.useH q (by show lookH st.heap q≠[];rw [hq];simp);rw [e] at h1;rw [h1] at hd;cases hd
 have hbq:(st.den.heap q)[0]?=some (.rows 1 [[.osl k 0 0 l n]] none):=by show (lookH st.heap q)[0]?=_;rw [hq];rfl
 have hbk:(st.den.heap k)[0]?=some (.rows sz rows ks):=by show (lookH st.heap k)[0]?=_;rw [hh];rfl
 obtain ⟨xq,hxq,hBq⟩:=hr.heap q 0 _ hbq;have hBq:RowsOK w (Forb Γ m) m xq 1 [[.osl k 0 0 l n]] none:=hBq;obtain ⟨x,hx,hB⟩:=hr.heap k 0 _ hbk;have hB:RowsOK w (Forb Γ m) m x sz rows ks:=hB;obtain ⟨g1,g2,c,g3,g4,g5⟩:=hBq.cell 0 _ 0 _ rfl rfl;have hos:∃ a l' k,c=.slice a l' k:=by cases g5 with | osl _ _ _ _ _ _ hc h=>exact hc
 have hok:OslOK w x 0 l c:=by cases g5 with | osl _ _ _ _ _ _ hc h=>exact ((h x hx).2 (by rw [hn,hB.hn])).2
 obtain ⟨a1,a2,a3⟩:=Rel.adopt hr hbk hx hd' (o:=0) (l:=l) (by omega);rw [List.drop_zero] at a1 a2;generalize hm1:m.adopt k d x ⟨x.b,x.base+0*x.sz,x.sz,l,x.nil⟩=m1 at *;have hm1q:m1 q 0=some xq:=by rw [←hm1];simp [MM.adopt,hqk',hqd',hxq]
 have hm1d:m1 d 0=some ⟨x.b,x.base+0*x.sz,x.sz,l,x.nil⟩:=by rw [←hm1];simp [MM.adopt]
 have hbl:(((st.den.at k 0 .gone).fresh d (.rows sz (rows.take l) ks)).heap q)[0]?=some (.rows 1 [[.osl k 0 0 l n]] none):=by
  simp only [ASt.fresh,ASt.at,hqk',hqd',if_false];exact hbq
 obtain ⟨xq1,hxq1,hBq1⟩:=a1.heap q 0 _ hbl;have e1:xq1=xq:=by rw [hm1q] at hxq1;cases hxq1;rfl
 subst e1;have hBq1:RowsOK w (Forb Γ m1) m1 xq1 1 [[.osl k 0 0 l n]] none:=hBq1;have hB2:RowsOK w (Forb Γ m1) m1 xq1 1 [[.osl d 0 0 l l]] none:=by
  refine ⟨hBq1.hsz,hBq1.hn,fun i r hi=>?_,fun h=>?_,hBq1.blk,fun i r j v hi hj=>?_⟩
  ·cases i with
   | zero=>cases hi;rfl
   | succ i=>simp at hi
  ·have:=hBq1.nil h;cases this
  ·cases i with
   | succ i=>simp at hi
   | zero =>
    cases hi;cases j with
    | succ j=>simp at hj
    | zero =>
     cases hj;refine ⟨rfl,fun l hl=>(by cases hl),c,g3,g4,.osl _ _ _ _ _ _ hos fun y hy=>?_⟩;rw [hm1d] at hy;cases hy;exact ⟨Nat.le_refl _,fun _=>⟨by omega,hok.shift⟩⟩
 have h3:=a1.at q 0 hbl hm1q xq1 (.rows 1 [[.osl d 0 0 l l]] none) (.inl rfl) (w':=w) (fun _ _ _=>rfl) (Nat.le_refl _) (fun _ _ _ h=>h) rfl ⟨rfl,fun _=>Nat.le_refl _⟩ rfl (fun hn=>.inl ⟨hn,rfl⟩) (fun i r j v hi hj s hs=>by
  cases i with
  | succ i=>simp at hi
  | zero =>
   cases hi
   cases j with
   | succ j=>simp at hj
   | zero =>
    cases hj
    simp only [V.sites,List.mem_singleton] at hs
    subst hs
    simp [ASt.fresh]) (by rw [MM.at_self hm1q];exact hB2)
 refine ⟨MM.at m1 q 0 xq1,?_⟩;have e:St.den ⟨st.env,(q,[.rows 1 [[.osl d 0 0 l l]] none])::(d,[.rows sz (rows.take l) ks])::(k,[.gone])::st.heap,d::st.used⟩=((st.den.at k 0 .gone).fresh d (.rows sz (rows.take l) ks)).at q 0 (.rows 1 [[.osl d 0 0 l l]] none):=by
  have h4:=St.den_ups [.upd k 0 .gone,.fresh d (.rows sz (rows.take l) ks),.upd q 0 (.rows 1 [[.osl d 0 0 l l]] none)] st;have hlq:lookH ((d,[.rows sz (rows.take l) ks])::(k,[.gone])::st.heap) q=[.rows 1 [[.osl k 0 0 l n]] none]:=by
   rw [←hq];unfold lookH;rw [look_cons,look_cons];simp [hqk',hqd']
  simp only [St.ups,ASt.ups,List.foldl_cons,List.foldl_nil,ASt.up,hh,List.set_cons_zero,hlq] at h4;rw [←h4]
 rw [e];exact h3
theorem Ref.adoptR [Glob] {Γ:Ctx}{st:St}(q k d o:Nat) {l n sz szq:Nat}{row:List V}{rows:List (List V)}{ks:Option (List Nat)}(hq:lookH st.heap q=[.rows szq [row] none]) (ho:row[o]?=some (.osl k 0 0 l n)) (hh:lookH st.heap k=[.rows sz rows ks]) (hn:n=rows.length) (hl:l≤n)
  (hd:memB d st.used=false) (hqk:Nat.beq q k=false):Ref Γ st ⟨st.env,(q,[.rows szq [row.set o (.osl d 0 0 l l)] none])::(d,[.rows sz (rows.take l) ks])::(k,[.gone])::st.heap,d::st.used⟩:=by
 intro m a w hr;have hqk':q≠k:=fun e=>by rw [e,Nat.beq_refl] at hqk;cases hqk
 have hd':st.den.used d=false:=hd;have hqd':q≠d:=fun e=>by
  have h1:memB q st.used=true:=hr.useH q (by show lookH st.heap q≠[];rw [hq];simp);rw [e] at h1;rw [h1] at hd;cases hd
 have hbq:(st.den.heap q)[0]?=some (.rows szq [row] none):=by show (lookH st.heap q)[0]?=_;rw [hq];rfl
 have hbk:(st.den.heap k)[0]?=some (.rows sz rows ks):=by show (lookH st.heap k)[0]?=_;rw [hh];rfl
 obtain ⟨xq,hxq,hBq⟩:=hr.heap q 0 _ hbq;have hBq:RowsOK w (Forb Γ m) m xq szq [row] none:=hBq;obtain ⟨x,hx,hB⟩:=hr.heap k 0 _ hbk;have hB:RowsOK w (Forb Γ m) m x sz rows ks:=hB;obtain ⟨g1,g2,c,g3,g4,g5⟩:=hBq.cell 0 row o _ rfl ho;have hos:∃ a l' k,c=.slice a l' k:=by cases g5 with | osl _ _ _ _ _ _ hc h=>exact hc
 have hok:OslOK w x 0 l c:=by cases g5 with | osl _ _ _ _ _ _ hc h=>exact ((h x hx).2 (by rw [hn,hB.hn])).2
 obtain ⟨a1,a2,a3⟩:=Rel.adopt hr hbk hx hd' (o:=0) (l:=l) (by omega);rw [List.drop_zero] at a1 a2;generalize hm1:m.adopt k d x ⟨x.b,x.base+0*x.sz,x.sz,l,x.nil⟩=m1 at *;have hm1q:m1 q 0=some xq:=by rw [←hm1];simp [MM.adopt,hqk',hqd',hxq]
 have hm1d:m1 d 0=some ⟨x.b,x.base+0*x.sz,x.sz,l,x.nil⟩:=by rw [←hm1];simp [MM.adopt]
 have hbl:(((st.den.at k 0 .gone).fresh d (.rows sz (rows.take l) ks)).heap q)[0]?=some (.rows szq [row] none):=by
  simp only [ASt.fresh,ASt.at,hqk',hqd',if_false];exact hbq
 obtain ⟨xq1,hxq1,hBq1⟩:=a1.heap q 0 _ hbl;have e1:xq1=xq:=by rw [hm1q] at hxq1;cases hxq1;rfl
 subst e1;have hBq1:RowsOK w (Forb Γ m1) m1 xq1 szq [row] none:=hBq1;have hwi1:=a1.useB q 0 _ hbl;have hol:o<row.length:=(List.getElem?_eq_some_iff.1 ho).1;have hset:∀ (j:Nat) v,(row.set o (.osl d 0 0 l l))[j]?=some v→(j=o∧v=.osl d 0 0 l l)∨(j≠o∧row[j]?=some v):=fun j v hj=>by
  rw [List.getElem?_set] at hj;by_cases e:o=j
  ·rw [if_pos e,if_pos hol] at hj;cases hj;exact .inl ⟨e.symm,rfl⟩
  ·rw [if_neg e] at hj;exact .inr ⟨fun h=>e h.symm,hj⟩
 have hB2:RowsOK w (Forb Γ m1) m1 xq1 szq [row.set o (.osl d 0 0 l l)] none:=by
  refine ⟨hBq1.hsz,hBq1.hn,fun i r hi=>?_,fun h=>?_,hBq1.blk,fun i r j v hi hj=>?_⟩
  ·cases i with
   | zero=>cases hi;rw [List.length_set];exact hBq1.len 0 row rfl
   | succ i=>simp at hi
  ·have:=hBq1.nil h;cases this
  ·cases i with
   | succ i=>simp at hi
   | zero =>
    cases hi;rcases hset j v hj with ⟨rfl,rfl⟩ | ⟨hne,hj⟩
    ·refine ⟨rfl,fun l hl=>(by cases hl),c,g3,g4,.osl _ _ _ _ _ _ hos fun y hy=>?_⟩;rw [hm1d] at hy;cases hy;exact ⟨Nat.le_refl _,fun _=>⟨by omega,hok.shift⟩⟩
    ·exact hBq1.cell 0 row j v rfl hj
 have h3:=a1.at q 0 hbl hm1q xq1 (.rows szq [row.set o (.osl d 0 0 l l)] none) (.inl rfl) (w':=w) (fun _ _ _=>rfl) (Nat.le_refl _) (fun _ _ _ h=>h) rfl ⟨rfl,fun _=>Nat.le_refl _⟩ rfl (fun hn=>.inl ⟨hn,rfl⟩) (fun i r j v hi hj s hs=>by
  cases i with
  | succ i=>simp at hi
  | zero =>
   cases hi
   rcases hset j v hj with ⟨rfl,rfl⟩ | ⟨hne,hj⟩
   ·simp only [V.sites,List.mem_singleton] at hs
    subst hs
    simp [ASt.fresh]
   ·exact hwi1 0 row j v rfl hj s hs) (by rw [MM.at_self hm1q];exact hB2)
 refine ⟨MM.at m1 q 0 xq1,?_⟩;have e:St.den ⟨st.env,(q,[.rows szq [row.set o (.osl d 0 0 l l)] none])::(d,[.rows sz (rows.take l) ks])::(k,[.gone])::st.heap,d::st.used⟩=((st.den.at k 0 .gone).fresh d (.rows sz (rows.take l) ks)).at q 0 (.rows szq [row.set o (.osl d 0 0 l l)] none):=by
  have h4:=St.den_ups [.upd k 0 .gone,.fresh d (.rows sz (rows.take l) ks),.upd q 0 (.rows szq [row.set o (.osl d 0 0 l l)] none)] st;have hlq:lookH ((d,[.rows sz (rows.take l) ks])::(k,[.gone])::st.heap) q=[.rows szq [row] none]:=by
   rw [←hq];unfold lookH;rw [look_cons,look_cons];simp [hqk',hqd']
  simp only [St.ups,ASt.ups,List.foldl_cons,List.foldl_nil,ASt.up,hh,List.set_cons_zero,hlq] at h4;rw [←h4]
 rw [e];exact h3
def arrI (l:List Int):Array Value:=(l.map (Value.int .i64)).toArray
def EqI (P:Program) (d:Nat) (t:TypeId) (n:Nat):Prop:=
 ∀ (w:World) (l l':List Int) (off off':Nat),off+n≤l.length→off' + n≤l'.length →
  ∃ x y,(Go.part t (arrI l) off).run P w=.ok x w∧(Go.part t (arrI l') off').run P w=.ok y w∧(Op.equalIn d t x y).run P w=.ok (decide ((l.drop off).take n=(l'.drop off').take n)) w
theorem arrI_get {l:List Int}{i:Nat}(h:i<l.length):(arrI l)[i]?=some (Value.int .i64 l[i]):=by simp [arrI,h]
theorem arrI_extract (l:List Int) (off n:Nat):(arrI l).extract off (off+n)=arrI ((l.drop off).take n):=by
 apply Array.ext_getElem?;intro i;simp only [arrI,List.extract_toArray,List.getElem?_toArray,List.getElem?_map];by_cases h:i<n<;>simp [List.getElem?_take,List.getElem?_drop,h]
theorem eqI_int {P:Program}{t:TypeId}{d:Nat}(hu:P.underlying t=some (.int .i64)):EqI P (d+1) t 1:=fun w l l' off off' h h'=>by
 have p0:P.plainKey t=true:=by simp [Program.plainKey,hu]
 refine ⟨_,_,run_part_plain w p0 (arrI_get (show off<l.length by omega)),run_part_plain w p0 (arrI_get (show off' < l'.length by omega)),?_⟩;have e1:(l.drop off).take 1=[l[off]]:=by rw [List.drop_eq_getElem_cons (by omega)];rfl
 have e2:(l'.drop off').take 1=[l'[off']]:=by rw [List.drop_eq_getElem_cons (by omega)];rfl
 rw [e1,e2];simp [Op.equalIn,run_underlying hu];by_cases e:l[off]=l'[off']<;>simp [e]
theorem run_part_agg {P:Program}{t:TypeId}{n:Nat}(ha:∀ w,(isAgg t).run P w=.ok true w) (hz:∀ w,(Go.sizeOf t).run P w=.ok n w) (l:List Int) (off:Nat) (w:World) :
  (Go.part t (arrI l) off).run P w=.ok (.agg (arrI ((l.drop off).take n))) w:=by
 unfold Go.part;simp only [Sem.run_bind,ha,hz,Result.andThen_ok,if_true,Sem.run_pure];rw [arrI_extract]
theorem eqI_two {P:Program}{t:TypeId}{d n0 n1:Nat}{f0 f1:Field}(hu:P.underlying t=some (.struct #[f0,f1])) (hst:P.stoodInHeld t=false) (m0:(f0.name == "_")=false) (m1:(f1.name == "_")=false) (o0:f0.offset=0) (o1:f1.offset=n0)
  (ha:∀ w,(isAgg t).run P w=.ok true w) (hz:∀ w,(Go.sizeOf t).run P w=.ok (n0+n1) w) (h0:EqI P d f0.type n0) (h1:EqI P d f1.type n1):EqI P (d+1) t (n0+n1):=fun w l l' off off' h h'=>by
 refine ⟨_,_,run_part_agg ha hz l off w,run_part_agg ha hz l' off' w,?_⟩;have m0':¬ f0.name="_":=by simpa using m0
 have m1':¬ f1.name="_":=by simpa using m1
 have hf:P.fieldsOf t=#[f0,f1]:=by simp [Program.fieldsOf,hu]
 rw [run_equalIn_struct w d t _ _ (by rw [hf];exact hu) hst,hf];generalize hL:(l.drop off).take (n0+n1)=L;generalize hL':(l'.drop off').take (n0+n1)=L';have hl:L.length=n0+n1:=by rw [←hL,List.length_take,List.length_drop];omega
 have hl':L'.length=n0+n1:=by rw [←hL',List.length_take,List.length_drop];omega
 obtain ⟨x0,y0,a1,a2,a3⟩:=h0 w L L' 0 0 (by omega) (by omega);obtain ⟨x1,y1,b1,b2,b3⟩:=h1 w L L' n0 n0 (by omega) (by omega);simp only [Op.eqFields,m0',m1',o0,o1,ne_eq,not_false_eq_true,if_true,Sem.run_bind,a1,a2,a3,Result.andThen_ok];rw [List.drop_zero,List.drop_zero] at *;have key:(L=L')↔(L.take n0=L'.take n0∧(L.drop n0).take n1=(L'.drop n0).take n1):=by
  have e1:L=L.take n0++(L.drop n0).take n1:=by rw [List.take_of_length_le (l:=L.drop n0) (by rw [List.length_drop];omega),List.take_append_drop]
  have e2:L'=L'.take n0++(L'.drop n0).take n1:=by rw [List.take_of_length_le (l:=L'.drop n0) (by rw [List.length_drop];omega),List.take_append_drop]
  constructor
  ·intro h;rw [h];exact ⟨rfl,rfl⟩
  ·rintro ⟨h1,h2⟩;rw [e1,e2,h1,h2]
 by_cases c0:L.take n0=L'.take n0
 ·simp only [c0,decide_true,Bool.not_true,Bool.false_eq_true,if_false,Sem.run_bind,b1,b2,b3,Result.andThen_ok];by_cases c1:(L.drop n0).take n1=(L'.drop n0).take n1
  ·have:L=L':=key.2 ⟨c0,c1⟩;simp [c1,this]
  ·have:¬ L=L':=fun e=>c1 (key.1 e).2;simp [c1,this]
 ·have:¬ L=L':=fun e=>c0 (key.1 e).1;simp [c0,this]
theorem EqI.equal {P:Program}{t:TypeId}{n d:Nat}(h:EqI P d t n) (hd:Op.maxDepth=d) (ha:∀ w,(isAgg t).run P w=.ok true w) (hz:∀ w,(Go.sizeOf t).run P w=.ok n w) {l l':List Int}(hl:l.length=n) (hl':l'.length=n) (w:World) :
  (Op.equal t (.agg (arrI l)) (.agg (arrI l'))).run P w=.ok (decide (l=l')) w:=by
 obtain ⟨x,y,a1,a2,a3⟩:=h w l l' 0 0 (by omega) (by omega);rw [run_part_agg ha hz] at a1 a2;cases a1;cases a2;simp only [List.drop_zero] at a3;rw [List.take_of_length_le (by omega),List.take_of_length_le (by omega)] at a3;unfold Op.equal;rw [hd];exact a3
section
variable {P:Program}{N:NB}{T:List (Nat×TI)}{o:Oper}{h:Nat→List Blk}{ρ:Operand→V}
def aggV (l:List Int):V:=.agg (l.map (V.int .i64))
theorem aggV_rel {w:World}{F:Nat→Prop}{m:MM}{l:List Int}{c:Value}(h:VRel w F m (aggV l) c):c=.agg (arrI l):=by
 unfold aggV at h;generalize hu:V.agg (l.map (V.int .i64))=u at h;cases h with
 | agg cs c hl ho h1 hv =>
  cases hu;congr 1;unfold arrI;congr 1;refine List.ext_getElem (by rw [←hl,List.length_map,List.length_map]) fun i h2 h3=>?_;have h4:i<l.length:=by rw [List.length_map] at h3;exact h3
  have h5:=hv i (V.int .i64 l[i]) c[i] (by simp [h4]) (List.getElem?_eq_getElem h2);rw [List.getElem_map];exact h5.int_inv
 | _=>cases hu
end
end Go.Sx
namespace Go.Sx
open Go
section
variable {P:Program}{N:NB}{o:Oper}{h:Nat→List Blk}{ρ:Operand→V}
theorem aggI_good [Glob] {op:BinOp}{t t' n:Nat}{x y:Operand}(hop:o.op=.binOp op t x y t') (hopq:op=.eql∨op=.neq) (hg:P.eqGuardType P.depth t=false)
  (hE:∀ (l l':List Int) (w:World),l.length=n→l'.length=n→(Op.equal t (.agg (arrI l)) (.agg (arrI l'))).run P w=.ok (decide (l=l')) w) {l l':List Int}(hl:l.length=n) (hl':l'.length=n) (hx:ρ x=aggV l) (hy:ρ y=aggV l') :
  GoodV P N o ρ h (.bool (match op with | .eql=>decide (l=l') | _=>!decide (l=l'))) [] []:=by
 refine GoodV.still fun Γ mm s ac w hr ho hgd=>?_;have h1:=hr.evalO x;have h2:=hr.evalO y;rw [ho x (by simp [hop,Op.operands]),hx] at h1;rw [ho y (by simp [hop,Op.operands]),hy] at h2;have h1:=aggV_rel h1;have h2:=aggV_rel h2;have he:=hE l l' w hl hl';refine ⟨_,?_,.bool _,by simp [V.sites]⟩;have hguard:∀ v v',(eqGuard op t x y (.agg v) (.agg v')).run P w=.ok () w:=by
  intro v v';rcases hopq with rfl | rfl<;>simp [eqGuard,hg]
 rcases hopq with rfl | rfl<;>simp [execOp,hop,h1,h2,hguard,binOp,he]
end
end Go.Sx
