/- How calls that are handed memory, and steps that rename, drop or freeze memory, are stepped through. -/
import Derived.Test.YthlokmbefpjmgaaGreatDoorSxThree
import Derived.Below
import Derived.Lib.Overlaps
import Derived.WideShapes
import Derived.ChangeArms
import Derived.OpenShut
import Derived.DataElems
import Derived.Test.YthlokmbefpjmgaaGreatDoorSxTwo
set_option linter.unusedVariables false
set_option linter.unusedSimpArgs false
namespace Go.Sx
open Go
mutual
def V.flat:V→Bool
 | .ro _ _=>false
 | .sl rows _=>(match rows with | []=>true | _=>false)
 | .agg cs=>flatL cs
 | .tup vs=>flatL vs
 | .fn _ caps=>flatL caps
 | .iface _ v=>v.flat
 | .dead=>true
 | .bool _=>true
 | .int _ _=>true
 | .str _=>true
 | .nilp=>true
 | .bp _ _=>true
 | .pel _ _ _ _ _=>true
 | .osl _ _ _ _ _=>true
 | .nils=>true
 | .nilf=>true
 | .nili=>true
 | .omap _ _=>true
 | .oslc _ _ _ _ _ _=>true
 | .nilm=>true
 | .sle=>true
 | .dmap _=>false
def flatL:List V→Bool
 | []=>true
 | v::vs=>v.flat&&flatL vs
end
theorem flatL_all {l:List V}(h:flatL l=true):∀ v∈l,v.flat=true:=by
 induction l with
 | nil=>simp
 | cons v l ih =>
  simp only [flatL,Bool.and_eq_true] at h;intro u hu;rcases List.mem_cons.1 hu with e | e
  ·subst e;exact h.1
  ·exact ih h.2 u e
theorem VRel.flat {w:World}{F F':Nat→Prop}{m:MM}{v:V}{c:Value}(h:VRel w F m v c):v.flat=true→VRel w F' m v c:=by
 induction h with
 | dead c=>intro _;exact .dead c
 | bool b=>intro _;exact .bool b
 | int k n=>intro _;exact .int k n
 | str s h=>intro _;exact .str s h
 | nilp=>intro _;exact .nilp
 | bp s o c hc h=>intro _;exact .bp s o c hc h
 | pel s i r o n c hc h=>intro _;exact .pel s i r o n c hc h
 | ro row o b base c hF hb ho hdd h1 ho1 hc hv ih=>intro h;simp [V.flat] at h
 | nilsl full a=>intro _;exact .nilsl full a
 | sl rows full sz b base cap c hF hl hmx hf hz' hdd h1 ho1 hc hv ih =>
  intro h;cases rows with
  | nil=>exact .sl [] full sz b base cap c (fun hne=>absurd rfl hne) hl hmx hf hz' hdd h1 ho1 hc (fun i r j v hi=>by simp at hi)
  | cons _ _=>simp [V.flat] at h
 | nils=>intro _;exact .nils
 | osl s i o l n c hc h=>intro _;exact .osl s i o l n c hc h
 | agg cs c hl ho h1 hv ih =>
  intro h;simp only [V.flat] at h;exact .agg cs c hl ho h1 fun j v x hj hx=>ih j v x hj hx (flatL_all h v (List.mem_of_getElem? hj))
 | tup cs c hl hv ih =>
  intro h;simp only [V.flat] at h;exact .tup cs c hl fun j v x hj hx=>ih j v x hj hx (flatL_all h v (List.mem_of_getElem? hj))
 | fn f cs c hl hv ih =>
  intro h;simp only [V.flat] at h;exact .fn f cs c hl fun j v x hj hx=>ih j v x hj hx (flatL_all h v (List.mem_of_getElem? hj))
 | nilf=>intro _;exact .nilf
 | iface t v c h ih=>intro hf;simp only [V.flat] at hf;exact .iface t v c (ih hf)
 | nili=>intro _;exact .nili
 | omap s i c hc h=>intro _;exact .omap s i c hc h
 | oslc s i o l n cap c hc h=>intro _;exact .oslc s i o l n cap c hc h
 | nilm=>intro _;exact .nilm
 | sle a cap h=>intro _;exact .sle a cap h
 | dmap rows b clock ents c hF hh hs hd hc hv ih=>intro h;simp [V.flat] at h
def Blk.flatB:Blk→Bool
 | .rows _ rs none=>rs.all fun r=>flatL r
 | .rows _ rs (some _)=>rs.all fun r=>flatL r
 | .map es _ none=>es.all fun p=>p.2.1.flat&&p.2.2.flat
 | .map es _ (some _)=>(match es with | []=>true | _=>false)
 | .iter _ _ _ _=>true
 | .gone=>true
theorem BRel.flat {w:World}{F F':Nat→Prop}{m:MM}{x:MB}{b:Blk}(h:BRel w F m x b) (hf:b.flatB=true):BRel w F' m x b:=by
 cases b with
 | rows sz rows ks =>
  obtain ⟨h1,h2,h3,h4,h5,h6⟩:=h;refine ⟨h1,h2,h3,h4,h5,fun i r j v hi hj=>?_⟩;obtain ⟨g1,g2,c,g3,g5,g4⟩:=h6 i r j v hi hj;refine ⟨g1,g2,c,g3,g5,g4.flat ?_⟩;cases ks with
  | none=>exact flatL_all (List.all_eq_true.1 hf r (List.mem_of_getElem? hi)) v (List.mem_of_getElem? hj)
  | some l=>exact flatL_all (List.all_eq_true.1 hf r (List.mem_of_getElem? hi)) v (List.mem_of_getElem? hj)
 | map es clock ks =>
  obtain ⟨h1,h2,ents,h3,h4,h5,h6,h7⟩:=h;refine ⟨h1,h2,ents,h3,h4,h5,h6,fun i b k v hi=>?_⟩;obtain ⟨e,g1,g0,g2,g3,g4,g5⟩:=h7 i b k v hi;have hkv:k.flat=true∧v.flat=true:=by
   cases ks with
   | none =>
    have:=List.all_eq_true.1 hf (b,k,v) (List.mem_of_getElem? hi);simpa using this
   | some l=>cases es with
    | nil=>simp at hi
    | cons _ _=>cases hf
  exact ⟨e,g1,g0,g2,g3,g4.flat hkv.1,g5.flat hkv.2⟩
 | iter s i clock seen=>exact h
 | gone=>trivial
def pureRows (rows:List (List V)) (ks:Option (List Nat)):Prop:=ks=some []∨(rows.all fun r=>r.all fun v=>v.sites.isEmpty)=true
def pureEs (es:List (Nat×V×V)) (ks:Option (List Nat)):Prop:=ks=some []∨∀ p∈es,p.2.2.sites=[]
inductive Lent (H:Nat→List Blk) (bo:List Nat):V→V→Prop
 | refl (v:V):Lent H bo v v
 | dead (v:V):Lent H bo v .dead
 | norm (v:V):Lent H bo v v.norm
 | osl (k o l n sz:Nat) (rows:List (List V)) (ks:Option (List Nat)):memB k bo=true→H k=[.rows sz rows ks]→n=rows.length→pureRows rows ks→Lent H bo (.osl k 0 o l n) (.sl ((rows.drop o).take l) false)
 | bp (k o sz:Nat) (row:List V) (ks:Option (List Nat)):memB k bo=true→H k=[.rows sz [row] ks]→o≤row.length→pureRows [row] ks→Lent H bo (.bp k o) (.ro row o)
 | agg (us vs:List V):us.length=vs.length→(∀ (j:Nat) u v,us[j]?=some u→vs[j]?=some v→Lent H bo u v)→(∀ v∈vs,v.one=true)→Lent H bo (.agg us) (.agg vs)
 | oslF (k i o l n sz:Nat) (rows:List (List V)) (ks:Option (List Nat)):memB k bo=true→(H k)[i]?=some (.rows sz rows ks)→n=rows.length→pureRows rows ks→Lent H bo (.osl k i o l n) (.sl ((rows.drop o).take l) false)
 | omapF (k i:Nat) (es:List (Nat×V×V)) (clock:Nat) (ks:Option (List Nat)):memB k bo=true→(H k)[i]?=some (.map es clock ks)→pureEs es ks→Lent H bo (.omap k i) (.dmap (mkD es))
theorem pureRows_at {w:World}{F:Nat→Prop}{m:MM}{x:MB}{sz:Nat}{rows:List (List V)}{ks:Option (List Nat)}(hB:RowsOK w F m x sz rows ks) (hp:pureRows rows ks) {i j:Nat}{r:List V}{v:V}(hi:rows[i]?=some r) (hj:r[j]?=some v):v.sites=[]:=by
 rcases hp with hp | hp
 ·obtain ⟨_,g2,_⟩:=hB.cell i r j v hi hj;exact List.eq_nil_iff_forall_not_mem.2 fun k hk=>by have:=g2 _ hp k hk;cases this
 ·have h1:=List.all_eq_true.1 hp r (List.mem_of_getElem? hi);have h2:=List.all_eq_true.1 h1 v (List.mem_of_getElem? hj);simpa using h2
theorem Lent.rel [Glob] {Γ:Ctx}{m:MM}{s:ASt}{a:Act}{w:World}(hr:Rel Γ m s a w) {H:Nat→List Blk}{bo:List Nat}(hH:∀ k,memB k bo=true→s.heap k=H k) {F':Nat→Prop}(hF:∀ b,F' b→Forb Γ m b)
  (hbo:∀ k i x,memB k bo=true→m k i=some x→x.nil=false→¬ F' x.b) {v v':V}{c:Value}(hl:Lent H bo v v') (hv:VRel w (Forb Γ m) m v c):VRel w F' m v' c:=by
 have go:∀ {v c},VRel w (Forb Γ m) m v c→VRel w F' m v c:=fun hv=>hv.mono (fun b _ hn=>⟨rfl,fun hf=>hn (hF b hf)⟩) (Nat.le_refl _) (fun _ _ _ h=>h) (fun _ _ x hx=>⟨x,hx,.inl rfl⟩)
 induction hl generalizing c with
 | refl=>exact go hv
 | dead=>exact .dead _
 | norm=>exact go hv.norm
 | osl k o l n sz rows ks h1 h2 h3 h4 =>
  have hh:(s.heap k)[0]?=some (.rows sz rows ks):=by rw [hH k h1,h2];rfl
  obtain ⟨x,hx,hB,hle,hos⟩:=hr.osl_inv hv hh h3;have hget:∀ (i:Nat) (r:List V),((rows.drop o).take l)[i]?=some r→rows[o+i]?=some r∧i<l:=by
   intro i r hi;rw [List.getElem?_take] at hi;split at hi
   ·rename_i h;rw [List.getElem?_drop] at hi;exact ⟨hi,h⟩
   ·cases hi
  have hlen:((rows.drop o).take l).length=l:=by simp;omega
  rcases hos with ⟨hl0,ad,rfl⟩ | ⟨hnil,cap,e1,n1,rfl,h6,h7,h8,h9⟩
  ·rw [hl0,List.take_zero];exact .nilsl false _
  ·have hcell:∀ (i:Nat) r (j:Nat) v,((rows.drop o).take l)[i]?=some r→r[j]?=some v→∃ c,w.cell? ⟨x.b,x.base+o*x.sz+i*sz+j,none⟩=some c∧c.oneCell'=true∧VRel w F' m v c∧v.one=true∧v.sites=[]:=by
    intro i r j v hi hj;obtain ⟨g1,g2,c,g3,g4,g5⟩:=hB.cell _ r j v (hget i r hi).1 hj;refine ⟨c,?_,g4,go g5,g1,pureRows_at hB h4 (hget i r hi).1 hj⟩;rw [Nat.add_mul,←Nat.add_assoc] at g3;rw [hB.hsz];exact g3
   have:=VRel.sl (w:=w) (F:=F') (m:=m) ((rows.drop o).take l) false sz x.b (x.base+o*x.sz) cap (fun i j=>(w.cell? ⟨x.b,x.base+o*x.sz+i*sz+j,none⟩).getD undef) (fun _=>⟨hbo k 0 x h1 hx hnil,(hr.fr k 0 x hx hnil).2.1⟩) (by rw [hlen];exact h6) h7 (fun h=>by cases h)
    (fun i r hi=>hB.len _ r (hget i r hi).1) (fun i r j v hi hj=>(hcell i r j v hi hj).choose_spec.2.2.2.2) (fun i r j v hi hj=>(hcell i r j v hi hj).choose_spec.2.2.2.1)
    (fun i r j v hi hj=>by obtain ⟨c,g1,g2,g3,_⟩:=hcell i r j v hi hj;rw [g1];exact g2) (fun i r j v hi hj=>by obtain ⟨c,g1,g2,g3,_⟩:=hcell i r j v hi hj;rw [g1];rfl) (fun i r j v hi hj=>by obtain ⟨c,g1,g2,g3,_⟩:=hcell i r j v hi hj;rw [g1];exact g3)
   rw [hlen] at this;exact this
 | bp k o sz row ks h1 h2 h3 h4 =>
  have hh:s.heap k=[.rows sz [row] ks]:=by rw [hH k h1,h2]
  obtain ⟨x,hx,hn,hc,hB⟩:=hr.bp_inv hv hh;have hcell:∀ (j:Nat) v,row[j]?=some v→∃ c,w.cell? ⟨x.b,x.base+j,none⟩=some c∧c.oneCell'=true∧VRel w F' m v c∧v.one=true∧v.sites=[]:=by
   intro j v hj;obtain ⟨g1,g2,c,g3,g4,g5⟩:=hB.cell 0 row j v rfl hj;exact ⟨c,by simpa using g3,g4,go g5,g1,pureRows_at hB h4 (i:=0) rfl hj⟩
  rw [hc];exact .ro row o x.b x.base (fun j=>(w.cell? ⟨x.b,x.base+j,none⟩).getD undef) (hbo k 0 x h1 hx hn) (hr.fr k 0 x hx hn).2.1 h3 (fun j v hj=>(hcell j v hj).choose_spec.2.2.2.2) (fun j v hj=>(hcell j v hj).choose_spec.2.2.2.1)
   (fun j v hj=>by obtain ⟨c,g1,g2,g3,_⟩:=hcell j v hj;rw [g1];exact g2) (fun j v hj=>by obtain ⟨c,g1,g2,g3,_⟩:=hcell j v hj;rw [g1];rfl) (fun j v hj=>by obtain ⟨c,g1,g2,g3,_⟩:=hcell j v hj;rw [g1];exact g3)
 | agg us vs hl _ h1 ih =>
  cases hv with
  | agg _ cs hlc ho h2 hvs =>
   exact .agg vs cs (by omega) ho (fun j v hj=>h1 v (List.mem_of_getElem? hj)) fun j v x hj hx=>by
    have hlt:j<us.length:=by have:=(List.getElem?_eq_some_iff.1 hj).1;omega
    exact ih j us[j] v (List.getElem?_eq_getElem hlt) hj (hvs j us[j] x (List.getElem?_eq_getElem hlt) hx)
 | oslF k q o l n sz rows ks h1 h2 h3 h4 =>
  have hh:(s.heap k)[q]?=some (.rows sz rows ks):=by rw [hH k h1,h2]
  obtain ⟨x,hx,hB,hle,hos⟩:=hr.osl_inv hv hh h3;have hget:∀ (i:Nat) (r:List V),((rows.drop o).take l)[i]?=some r→rows[o+i]?=some r∧i<l:=by
   intro i r hi;rw [List.getElem?_take] at hi;split at hi
   ·rename_i h;rw [List.getElem?_drop] at hi;exact ⟨hi,h⟩
   ·cases hi
  have hlen:((rows.drop o).take l).length=l:=by simp;omega
  rcases hos with ⟨hl0,ad,rfl⟩ | ⟨hnil,cap,e1,n1,rfl,h6,h7,h8,h9⟩
  ·rw [hl0,List.take_zero];exact .nilsl false _
  ·have hcell:∀ (i:Nat) r (j:Nat) v,((rows.drop o).take l)[i]?=some r→r[j]?=some v→∃ c,w.cell? ⟨x.b,x.base+o*x.sz+i*sz+j,none⟩=some c∧c.oneCell'=true∧VRel w F' m v c∧v.one=true∧v.sites=[]:=by
    intro i r j v hi hj;obtain ⟨g1,g2,c,g3,g4,g5⟩:=hB.cell _ r j v (hget i r hi).1 hj;refine ⟨c,?_,g4,go g5,g1,pureRows_at hB h4 (hget i r hi).1 hj⟩;rw [Nat.add_mul,←Nat.add_assoc] at g3;rw [hB.hsz];exact g3
   have:=VRel.sl (w:=w) (F:=F') (m:=m) ((rows.drop o).take l) false sz x.b (x.base+o*x.sz) cap (fun i j=>(w.cell? ⟨x.b,x.base+o*x.sz+i*sz+j,none⟩).getD undef) (fun _=>⟨hbo k q x h1 hx hnil,(hr.fr k q x hx hnil).2.1⟩) (by rw [hlen];exact h6) h7 (fun h=>by cases h)
    (fun i r hi=>hB.len _ r (hget i r hi).1) (fun i r j v hi hj=>(hcell i r j v hi hj).choose_spec.2.2.2.2) (fun i r j v hi hj=>(hcell i r j v hi hj).choose_spec.2.2.2.1)
    (fun i r j v hi hj=>by obtain ⟨c,g1,g2,g3,_⟩:=hcell i r j v hi hj;rw [g1];exact g2) (fun i r j v hi hj=>by obtain ⟨c,g1,g2,g3,_⟩:=hcell i r j v hi hj;rw [g1];rfl) (fun i r j v hi hj=>by obtain ⟨c,g1,g2,g3,_⟩:=hcell i r j v hi hj;rw [g1];exact g3)
   rw [hlen] at this;exact this
 | omapF k q es clock ks h1 h2 h3 =>
  have hh:(s.heap k)[q]?=some (.map es clock ks):=by rw [hH k h1,h2]
  obtain ⟨x,hx,hB⟩:=hr.heap k q _ hh;have hB:MapOK w (Forb Γ m) m x es clock ks:=hB;obtain ⟨b1,b2,ents,b3,b4,b5,b6,b7⟩:=hB;have hc:c=.map (some x.b):=by
   cases hv with
   | omap _ _ c hc hv=>exact hv x hx b2
  subst hc;have hrow:∀ (i:Nat) r,(mkD es)[i]?=some r→∃ b k' v,es[i]?=some (b,k',v)∧r=[k',v]:=fun i r hi=>by
   unfold mkD at hi;rw [List.getElem?_map,Option.map_eq_some_iff] at hi;obtain ⟨⟨b,k',v⟩,h5,rfl⟩:=hi;exact ⟨b,k',v,h5,rfl⟩
  have hpure:∀ (i:Nat) b k' v,es[i]?=some (b,k',v)→v.sites=[]:=fun i b k' v hi=>by
   rcases h3 with h3 | h3
   ·obtain ⟨e,_,_,_,g3,_⟩:=b7 i b k' v hi;exact List.eq_nil_iff_forall_not_mem.2 fun z hz=>by have:=g3 _ h3 z hz;cases this
   ·exact h3 _ (List.mem_of_getElem? hi)
  refine .dmap (mkD es) x.b clock ents (fun i j=>match ents[i]? with | some e=>(match j with | 0=>e.key | _=>e.val) | none=>undef) ⟨hbo k q x h1 hx b1,(hr.fr k q x hx b1).2.1⟩ b3 (by simp [mkD,b4]) (fun i r j v hi hj=>?_) (fun i e he=>?_) (fun i r j v hi hj=>?_)
  ·obtain ⟨b,k',v',g1,rfl⟩:=hrow i r hi;obtain ⟨e,_,_,g2,_⟩:=b7 i b k' v' g1
   match j with
   | 0=>simp at hj;subst hj;exact g2
   | 1=>simp at hj;subst hj;exact hpure i b k' v' g1
   | j+2=>simp at hj
  ·simp [he]
  ·obtain ⟨b,k',v',g1,rfl⟩:=hrow i r hi;obtain ⟨e,g0,_,g2,_,g4,g5⟩:=b7 i b k' v' g1
   match j with
   | 0=>simp at hj;subst hj;simp only [g0];exact go g4
   | 1=>simp at hj;subst hj;simp only [g0];exact go g5
   | j+2=>simp at hj
def LentL (H:Nat→List Blk) (bo:List Nat):List V→List V→Prop
 | [],[]=>True
 | u::us,v::vs=>Lent H bo u v∧LentL H bo us vs
 | _,_=>False
theorem LentL.get {H:Nat→List Blk}{bo:List Nat}:∀ {us vs:List V},LentL H bo us vs→us.length=vs.length∧∀ (j:Nat) u v,us[j]?=some u→vs[j]?=some v→Lent H bo u v
 | [],[],_=>⟨rfl,by simp⟩
 | u::us,v::vs,h=>by
  obtain ⟨h1,h2⟩:=LentL.get h.2;refine ⟨by simp [h1],fun j a b ha hb=>?_⟩;cases j with
  | zero=>simp at ha hb;subst ha hb;exact h.1
  | succ j=>exact h2 j a b (by simpa using ha) (by simpa using hb)
 | [],_::_,h=>h.elim
 | _::_,[],h=>h.elim
def outB (hout:List (Nat×Blk)) (k:Nat):Blk:=match look hout k with | some b=>b | none=>.gone
def upsOf (mp fr:List (Nat×Nat)) (hout:List (Nat×Blk)):List Up:=
 (mp.map fun p=>.upd p.2 0 ((outB hout p.1).ren (look (mp++fr))))++(fr.map fun p=>.fresh p.2 ((outB hout p.1).ren (look (mp++fr))))
def handed (h:Nat→List Blk) (mp:List (Nat×Nat)):List (Nat×Blk)→Prop
 | []=>True
 | (k,b)::l=>(match look mp k with | some k'=>h k'=[b.ren (look mp)] | none=>False)∧handed h mp l
theorem handed_get {h:Nat→List Blk}{mp:List (Nat×Nat)}:∀ {l:List (Nat×Blk)},handed h mp l→∀ k b,(k,b)∈l→∃ k',look mp k=some k'∧h k'=[b.ren (look mp)]
 | (j,c)::l,hh,k,b,hm=>by
  rcases List.mem_cons.1 hm with e | e
  ·cases e;have:=hh.1;split at this
   ·rename_i k' hk;exact ⟨k',hk,this⟩
   ·exact this.elim
  ·exact handed_get hh.2 k b e
structure CallOK (h:Nat→List Blk) (mp fr:List (Nat×Nat)) (bo:List Nat) (hin:List (Nat×Blk)) (v:V) (hout:List (Nat×Blk)):Prop where
 kin:mp.map (·.1)=keys hin
 kout:(mp++fr).map (·.1)=keys hout
 nd1:nodupB (keys hout)=true
 nd2:nodupB ((mp++fr).map (·.2))=true
 ndb:(bo.all fun k=>match memB k (mp.map (·.2)) with | true=>false | false=>true)=true
 hand:handed h mp hin
 sin:(hin.all fun p=>p.2.sitesIn fun k=>memB k (keys hin))=true
 flat:(bo.isEmpty||(v.flat&&hout.all fun p=>p.2.flatB))=true
theorem mem_fst {l:List (Nat×Nat)}{k k':Nat}(h:(k,k')∈l):k∈l.map (·.1):=List.mem_map.2 ⟨(k,k'),h,rfl⟩
theorem mem_snd {l:List (Nat×Nat)}{k k':Nat}(h:(k,k')∈l):k'∈l.map (·.2):=List.mem_map.2 ⟨(k,k'),h,rfl⟩
theorem mem_key {l:List (Nat×Blk)}{k:Nat}{b:Blk}(h:(k,b)∈l):k∈keys l:=List.mem_map.2 ⟨(k,b),h,rfl⟩
theorem nodupB_left:∀ {a b:List Nat},nodupB (a++b)=true→nodupB a=true
 | [],_,_=>rfl
 | k::a,b,h=>by
  simp only [List.cons_append,nodupB,Bool.and_eq_true] at h ⊢;refine ⟨?_,nodupB_left h.2⟩;cases hm:memB k a with
  | false=>rfl
  | true=>rw [memB_of (List.mem_append_left _ (memB_true hm))] at h;exact absurd h.1 (by simp)
section
variable {h:Nat→List Blk}{mp fr:List (Nat×Nat)}{bo:List Nat}{hin hout:List (Nat×Blk)}{v:V}
theorem upsOf_made:Up.made (upsOf mp fr hout)=fr.map (·.2):=by
 have h1:∀ (l:List (Nat×Nat)) (us:List Up),Up.made ((l.map fun p=>Up.upd p.2 0 ((outB hout p.1).ren (look (mp++fr))))++us)=Up.made us:=by
  intro l us
  induction l with
  | nil=>rfl
  | cons p l ih=>simpa [Up.made] using ih
 have h2:∀ (l:List (Nat×Nat)),Up.made (l.map fun p=>Up.fresh p.2 ((outB hout p.1).ren (look (mp++fr))))=l.map (·.2):=by
  intro l
  induction l with
  | nil=>rfl
  | cons p l ih=>simp [Up.made,ih]
 rw [upsOf,h1,h2]
theorem upsOf_keys:(upsOf mp fr hout).map Up.key=(mp++fr).map (·.2):=by
 simp [upsOf,List.map_map,Function.comp_def,Up.key]
theorem callG [Glob] {P:Program}{N:NB}{o:Oper}{c:Call}{fop:Operand}{ρ:Operand→V}{f:Nat}{caps args:List V}(mp fr:List (Nat×Nat)) (bo:List Nat) (hop:o.op=.call c) (hc:c.callee=.value fop) (hfn:ρ fop=.fn f caps)
  (hd:dstOK N o.dst=true) (sp:Spec P f args hin v hout) (hargs:LentL h bo (c.args.toList.map ρ++caps) (args.map (V.ren (look mp)))) (hs:(args.all fun u=>u.sites.all fun k=>memB k (keys hin))=true) (ok:CallOK h mp fr bo hin v hout) :
  GoodW P N o ρ h (v.ren (look (mp++fr))) (upsOf mp fr hout) (mp.map (·.2)++bo):=by
 intro Γ m s a w hN hr ho hg hu;obtain ⟨kin,kout,nd1,nd2,ndb,hand,sin,flat⟩:=ok;have nd1':nodupB ((mp++fr).map (·.1))=true:=by rw [kout];exact nd1
 have ndm1:nodupB (mp.map (·.1))=true:=nodupB_left (by rw [List.map_append] at nd1';exact nd1');have ndm2:nodupB (mp.map (·.2))=true:=nodupB_left (by rw [List.map_append] at nd2;exact nd2);have hmpsub:∀ k k',look mp k=some k'→look (mp++fr) k=some k':=fun k k' hk=>(look_iff nd1').2 (List.mem_append_left _ ((look_iff ndm1).1 hk));have hmpkey:∀ k,memB k (keys hin)=true→∃ k',look mp k=some k':=fun k hk=>by
  have:=memB_true hk;rw [←kin] at this;exact Option.isSome_iff_exists.1 (look_isSome.2 this)
 let σ:Nat→Option Nat:=look (swapL mp)
 let σ':Nat→Option Nat:=look (swapL (mp++fr))
 have hσ:∀ k k',σ k'=some k↔look mp k=some k':=fun k k'=>look_swap ndm1 ndm2;have hσ':∀ k k',σ' k'=some k↔look (mp++fr) k=some k':=fun k k'=>look_swap nd1' nd2;have hfrd:∀ k k',(k,k')∈fr→s.used k'=false:=fun k k' hm=>hu k' (by rw [upsOf_made];exact mem_snd hm)
 let mc:MM:=fun k i=>match look mp k with | some k'=>m k' i | none=>none
 let Fr':Nat→Prop:=fun b=>Γ.Fr b∨∃ k i x,σ k=none∧memB k bo=false∧m k i=some x∧x.nil=false∧x.b=b
 have hmc:∀ k i x,mc k i=some x→∃ k',look mp k=some k'∧m k' i=some x:=fun k i x hx=>by
  simp only [mc] at hx;split at hx
  ·rename_i k' hk;exact ⟨k',hk,hx⟩
  ·cases hx
 have hmc2:∀ k k' i,look mp k=some k'→mc k i=m k' i:=fun k k' i hk=>by simp only [mc,hk]
 have hOmc:∀ b,Own mc b→Own m b:=fun b ⟨k,i,x,hx,hn,hb⟩=>by
  obtain ⟨k',_,hx'⟩:=hmc k i x hx;exact ⟨k',i,x,hx',hn,hb⟩
 have hFsub:∀ b,FrO Fr' mc b→Forb Γ m b:=fun b hb=>by
  rcases hb with (hb | ⟨k,i,x,_,_,hx,hn,hxb⟩) | hb
  ·exact .inl hb
  ·exact .inr ⟨k,i,x,hx,hn,hxb⟩
  ·exact .inr (hOmc b hb)
 have hbos:∀ k,memB k bo=true→σ k=none:=fun k hk=>by
  cases hσk:σ k with
  | none=>rfl
  | some k0 =>
   have h1:=(hσ k0 k).1 hσk;have h2:=List.all_eq_true.1 ndb k (memB_true hk);rw [memB_of (show k∈mp.map (·.2) from List.mem_map.2 ⟨(k0,k),(look_iff ndm1).1 h1,rfl⟩)] at h2;cases h2
 have hbF:∀ k i x,memB k bo=true→m k i=some x→x.nil=false→¬ FrO Fr' mc x.b:=fun k i x hk hx hn hF=>by
  rcases hF with (hF | ⟨k2,i2,x2,h1,h2,hx2,hn2,hb2⟩) | ⟨k2,i2,x2,hx2,hn2,hb2⟩
  ·exact (hr.fr k i x hx hn).1 hF
  ·obtain ⟨rfl,_⟩:=hr.inj k2 i2 x2 k i x hx2 hx hn2 hn hb2;rw [hk] at h2;cases h2
  ·obtain ⟨k3,h3,hx3⟩:=hmc k2 i2 x2 hx2;obtain ⟨rfl,_⟩:=hr.inj k3 i2 x2 k i x hx3 hx hn2 hn hb2;have:=hbos k3 hk;rw [(hσ k2 k3).2 h3] at this;cases this
 have toC:∀ {v c},VRel w (Forb Γ m) m v c→VRel w (FrO Fr' mc) mc (v.ren σ) c:=fun hv=>hv.tr (fun b _ hn=>⟨rfl,fun hf=>hn (hFsub b hf)⟩) (Nat.le_refl _) (fun _ _ _ h=>h) (fun k k' hk i x' hx'=>by
  have:=(hσ k' k).1 hk
  rw [hmc2 k' k i this] at hx'
  exact ⟨x',hx',.inl rfl⟩)
 have toCF:∀ {v c},VRel w (FrO Fr' mc) m v c→VRel w (FrO Fr' mc) mc (v.ren σ) c:=fun hv=>hv.tr (fun b _ hn=>⟨rfl,hn⟩) (Nat.le_refl _) (fun _ _ _ h=>h) (fun k k' hk i x' hx'=>by
  have:=(hσ k' k).1 hk
  rw [hmc2 k' k i this] at hx'
  exact ⟨x',hx',.inl rfl⟩)
 have hUσ:∀ k,memB k (keys hin)=true→∃ k',look mp k=some k'∧σ k'=some k:=fun k hk=>by
  obtain ⟨k',hk'⟩:=hmpkey k hk;exact ⟨k',hk',(hσ k k').2 hk'⟩
 have ndin:nodupB (hin.map (·.1))=true:=by rw [kin] at ndm1;exact ndm1
 have ndout:nodupB (hout.map (·.1))=true:=nd1;have hheapin:∀ k k',look mp k=some k'→∃ b,look hin k=some b∧s.heap k'=[b.ren (look mp)]∧b.sitesIn (fun k=>memB k (keys hin))=true:=fun k k' hk=>by
  have h1:k∈hin.map (·.1):=by
   have:=mem_fst ((look_iff ndm1).1 hk);rw [kin] at this;exact this
  obtain ⟨b,hb⟩:=Option.isSome_iff_exists.1 (look_isSome.2 h1);obtain ⟨k2,h2,h3⟩:=handed_get hand k b (look_mem hb);rw [hk] at h2;cases h2;refine ⟨b,hb,?_,List.all_eq_true.1 sin (k,b) (look_mem hb)⟩;rw [hg k' (List.mem_append_left _ (mem_snd ((look_iff ndm1).1 hk)))];exact h3
 have hHin:HRel Fr' mc hin w:=by
  refine ⟨fun k i=>?_,fun k i blk hb=>?_,fun k i x k' i' x' hx hx' hn hn' hb=>?_,fun k i x hx hn=>?_,fun p hp=>Blk.sitesIn_within (List.all_eq_true.1 sin p hp),hr.glob.tr (fun b _ hn=>⟨rfl,fun hf=>hn (hFsub b hf)⟩) (Nat.le_refl _)⟩
  ·rw [lookH_heapL];cases hk:look mp k with
   | none =>
    have:look hin k=none:=look_none fun hm=>by
     have hm':k∈keys hin:=hm;rw [←kin] at hm';have:=look_isSome.2 hm';rw [hk] at this;cases this
    simp [mc,hk,this]
   | some k' =>
    obtain ⟨b,hb,hh,_⟩:=hheapin k k' hk;rw [hmc2 k k' i hk,hb];have:=hr.dom k' i;rw [hh] at this;simpa using this
  ·rw [lookH_heapL] at hb;cases hk:look hin k with
   | none=>rw [hk] at hb;simp at hb
   | some b =>
    rw [hk] at hb;cases i with
    | succ i=>simp at hb
    | zero =>
     simp at hb;subst hb;obtain ⟨k',hk'⟩:=hmpkey k (memB_of (mem_key (look_mem hk)));obtain ⟨b2,hb2,hh,hsi⟩:=hheapin k k' hk';rw [hk] at hb2;cases hb2;obtain ⟨x,hx,hB⟩:=hr.heap k' 0 (b.ren (look mp)) (by rw [hh];rfl);exact ⟨x,by rw [hmc2 k k' 0 hk'];exact hx,BRel.unren (fun s s' hs i x' hx'=>⟨x',by rw [←hmc2 s' s i ((hσ s' s).1 hs)];exact hx',.inl rfl⟩) toC hsi hUσ hB⟩
  ·obtain ⟨j,hj,hx⟩:=hmc k i x hx;obtain ⟨j',hj',hx'⟩:=hmc k' i' x' hx';obtain ⟨rfl,rfl⟩:=hr.inj j i x j' i' x' hx hx' hn hn' hb;have h1:=(hσ k j).2 hj;rw [(hσ k' j).2 hj'] at h1;cases h1;exact ⟨rfl,rfl⟩
  ·obtain ⟨j,hj,hx⟩:=hmc k i x hx;obtain ⟨h1,h2,_⟩:=hr.fr j i x hx hn;refine ⟨fun hF=>?_,h2⟩;rcases hF with hF | ⟨k2,i2,x2,g1,g2,hx2,hn2,hb2⟩
   ·exact h1 hF
   ·obtain ⟨rfl,_⟩:=hr.inj k2 i2 x2 j i x hx2 hx hn2 hn hb2;rw [(hσ k k2).2 hj] at g1;cases g1
 have hf:=hr.evalO fop;rw [ho fop (by simp [hop,Op.operands,Call.operands,hc]),hfn] at hf;generalize hcf:a.eval fop=cf at hf;cases hf with
 | fn f caps ccaps hl hcap =>
 have hrun:(execOp a.eval o).run P w=.ok (.enter f (c.args.map a.eval++ccaps.toArray)) w:=by
  simp [execOp,hop,resolve,hc,hcf,Deferred.ofValue,invoke,sp.enter]
 unfold Oper.wp;rw [hrun];simp only [Oper.upon];have harr:c.args.map a.eval++ccaps.toArray=((c.args.toList.map a.eval)++ccaps).toArray:=by
  cases hca:c.args;simp
 rw [harr];obtain ⟨hl1,hl2⟩:=hargs.get;refine (sp.calls Fr' mc w _ ?_ (fun b hb=>?_) hHin (fun j u x hj hx=>?_) (fun u hu k hk=>List.all_eq_true.1 (List.all_eq_true.1 hs u hu) k hk)).mono fun e w' ⟨cv,m',he,hcv,hH,hnew,hkeep,hext⟩=>?_
 ·simp only [List.length_append,List.length_map] at hl1 ⊢;omega
 ·rcases hb with hb | ⟨k,i,x,_,_,hx,hn,rfl⟩
  ·have h1:=(hr.frw b hb).1;have h2:=hr.ext.size;omega
  ·exact (hr.fr k i x hx hn).2.1
 ·have hu':(args.map (V.ren (look mp)))[j]?=some (u.ren (look mp)):=by rw [List.getElem?_map,hj];rfl
  have hjl:j<(c.args.toList.map ρ++caps).length:=by rw [hl1];exact (List.getElem?_eq_some_iff.1 hu').1
  have hu0:=List.getElem?_eq_getElem hjl;generalize hgu:(c.args.toList.map ρ++caps)[j]=u0 at hu0;have hlent:=hl2 j u0 _ hu0 hu';have hrel:VRel w (Forb Γ m) m u0 x:=by
   rcases Nat.lt_or_ge j (c.args.toList.map ρ).length with hlt | hge
   ·rw [List.getElem?_append_left hlt,List.getElem?_map,Option.map_eq_some_iff] at hu0;rw [List.getElem?_append_left (by simpa using hlt),List.getElem?_map,Option.map_eq_some_iff] at hx;obtain ⟨y,hy,rfl⟩:=hu0;obtain ⟨y',hy',rfl⟩:=hx;rw [hy] at hy';cases hy';rw [←ho y (by
     have:=List.mem_of_getElem? hy
     simp only [hop,Op.operands,Call.operands]
     exact Array.mem_append_right _ (Array.mem_toList_iff.1 this))]
    exact hr.evalO y
   ·rw [List.getElem?_append_right hge] at hu0;rw [List.getElem?_append_right (by simpa using hge)] at hx;simp only [List.length_map] at hu0 hx;exact hcap _ _ _ hu0 hx
  have h1:=toCF (Lent.rel hr (fun k hk=>hg k (List.mem_append_right _ (memB_true hk))) hFsub hbF hlent hrel);rw [ren_ren fun k hk=>hUσ k (List.all_eq_true.1 (List.all_eq_true.1 hs u (List.mem_of_getElem? hj)) k hk)] at h1;exact h1
 ·subst he
  let m2:MM:=fun k i=>match σ' k with | some k0=>m' k0 i | none=>m k i
  have hm2s:∀ k k0 i,σ' k=some k0→m2 k i=m' k0 i:=fun k k0 i hk=>by simp only [m2,hk]
  have hm2n:∀ k i,σ' k=none→m2 k i=m k i:=fun k i hk=>by simp only [m2,hk]
  have hsplit:∀ k0 k,look (mp++fr) k0=some k→look mp k0=some k∨(k0,k)∈fr:=fun k0 k hk=>by
   rcases List.mem_append.1 ((look_iff nd1').1 hk) with hm | hm
   ·exact .inl ((look_iff ndm1).2 hm)
   ·exact .inr hm
  have hσn:∀ k,σ' k=none→σ k=none:=fun k hk=>by
   cases hσk:σ k with
   | none=>rfl
   | some k0 =>
    have:=(hσ' k0 k).2 (hmpsub k0 k ((hσ k0 k).1 hσk));rw [hk] at this;cases this
  have hinkey:∀ k0 k,look mp k0=some k→memB k0 (keys hin)=true:=fun k0 k hk=>by
   rw [←kin];exact memB_of (mem_fst ((look_iff ndm1).1 hk))
  have hchain:∀ k,s.used k=true→∀ i x',m2 k i=some x'→∃ x,m k i=some x∧Adv x x':=fun k hk i x' hx'=>by
   cases hσk:σ' k with
   | none=>rw [hm2n k i hσk] at hx';exact ⟨x',hx',.inl rfl⟩
   | some k0 =>
    rw [hm2s k k0 i hσk] at hx';rcases hsplit k0 k ((hσ' k0 k).1 hσk) with h1 | h1
    ·obtain ⟨x0,g1,g2⟩:=hkeep k0 (hinkey k0 k h1) i x' hx';rw [hmc2 k0 k i h1] at g1;exact ⟨x0,g1,g2⟩
    ·rw [hfrd k0 k h1] at hk;cases hk
  have hown2:∀ b,b<w.heap.size→Own m2 b→Own m b:=fun b hb ⟨k,i,x,hx,hn,hxb⟩=>by
   cases hσk:σ' k with
   | none=>rw [hm2n k i hσk] at hx;exact ⟨k,i,x,hx,hn,hxb⟩
   | some k0 =>
    rw [hm2s k k0 i hσk] at hx;rcases hnew k0 i x hx hn with h1 | h1
    ·exact hOmc b (hxb ▸ h1)
    ·omega
  have hmm:∀ k0 k,look (mp++fr) k0=some k→∀ i x',m2 k i=some x'→∃ x,m' k0 i=some x∧Adv x x':=fun k0 k hk i x' hx'=>by
   rw [hm2s k k0 i ((hσ' k0 k).2 hk)] at hx';exact ⟨x',hx',.inl rfl⟩
  have toR:∀ {v c},(bo=[]∨v.flat=true)→VRel w' (FrO Fr' m') m' v c→VRel w' (Forb Γ m2) m2 (v.ren (look (mp++fr))) c:=by
   intro v c hbf hv;rcases hbf with hbo | hflat
   ·refine hv.tr (fun b _ hn=>⟨rfl,fun hf=>hn ?_⟩) (Nat.le_refl _) (fun _ _ _ h=>h) hmm;rcases hf with hf | ⟨k,i,x,hx,hnl,hxb⟩
    ·exact .inl (.inl hf)
    ·cases hσk:σ' k with
     | none=>rw [hm2n k i hσk] at hx;exact .inl (.inr ⟨k,i,x,hσn k hσk,by rw [hbo];rfl,hx,hnl,hxb⟩)
     | some k0=>rw [hm2s k k0 i hσk] at hx;exact .inr ⟨k0,i,x,hx,hnl,hxb⟩
   ·exact (hv.flat (F':=Forb Γ m2) hflat).tr (fun b _ hn=>⟨rfl,hn⟩) (Nat.le_refl _) (fun _ _ _ h=>h) hmm
  have hfl:bo=[]∨(v.flat=true∧(hout.all fun p=>p.2.flatB)=true):=by
   simp only [Bool.or_eq_true,List.isEmpty_iff,Bool.and_eq_true] at flat;exact flat
  have hA:∀ k k0,σ' k=some k0→(s.ups (upsOf mp fr hout)).heap k=[(outB hout k0).ren (look (mp++fr))]:=fun k k0 hk=>by
   have hlk:=(hσ' k0 k).1 hk;have hnd:nodupB ((upsOf mp fr hout).map Up.key)=true:=by rw [upsOf_keys];exact nd2
   rcases hsplit k0 k hlk with h1 | h1
   ·have hmem:Up.upd k 0 ((outB hout k0).ren (look (mp++fr)))∈upsOf mp fr hout:=List.mem_append_left _ (List.mem_map.2 ⟨(k0,k),(look_iff ndm1).1 h1,rfl⟩);have:=ups_one (upsOf mp fr hout) s _ hnd hmem;simp only [Up.key,Up.res] at this;obtain ⟨b,_,hh,_⟩:=hheapin k0 k h1;rw [this,hh];rfl
   ·have hmem:Up.fresh k ((outB hout k0).ren (look (mp++fr)))∈upsOf mp fr hout:=List.mem_append_right _ (List.mem_map.2 ⟨(k0,k),h1,rfl⟩);have:=ups_one (upsOf mp fr hout) s _ hnd hmem;simp only [Up.key,Up.res] at this;exact this
  have hB:∀ k,σ' k=none→(s.ups (upsOf mp fr hout)).heap k=s.heap k:=fun k hk=>ups_other _ s k fun u hu e=>by
   have h1:k∈(mp++fr).map (·.2):=by rw [←upsOf_keys (hout:=hout)];exact List.mem_map.2 ⟨u,hu,e⟩
   obtain ⟨p,hp,rfl⟩:=List.mem_map.1 h1;have:=(hσ' p.1 p.2).2 ((look_iff nd1').2 hp);rw [hk] at this;cases this
  have hout_at:∀ k k0,σ' k=some k0→look hout k0=some (outB hout k0):=fun k k0 hk=>by
   have h1:k0∈hout.map (·.1):=by
    have:=mem_fst ((look_iff nd1').1 ((hσ' k0 k).1 hk));rw [kout] at this;exact this
   obtain ⟨b,hb⟩:=Option.isSome_iff_exists.1 (look_isSome.2 h1);simp [outB,hb]
  have hused:∀ k0 k,look (mp++fr) k0=some k→(s.ups (upsOf mp fr hout)).used k=true:=fun k0 k hk=>by
   rw [upsMade];rcases hsplit k0 k hk with h1 | h1
   ·obtain ⟨b,_,hh,_⟩:=hheapin k0 k h1;exact .inl (hr.useH k (by rw [hh];simp))
   ·exact .inr (by rw [upsOf_made];exact mem_snd h1)
  have hsize:=hext.size;have hkeepw:∀ k i x,σ k=none→m k i=some x→x.nil=false→w'.heap[x.b]?=w.heap[x.b]?:=fun k i x hk hx hn=>hext.block x.b (hr.fr k i x hx hn).2.1 fun ⟨k2,i2,x2,hx2,hn2,hb2⟩=>by
   obtain ⟨k3,h3,hx3⟩:=hmc k2 i2 x2 hx2;obtain ⟨rfl,_⟩:=hr.inj k3 i2 x2 k i x hx3 hx hn2 hn hb2;rw [(hσ k2 k3).2 h3] at hk;cases hk
  have hr':Rel Γ m2 (s.ups (upsOf mp fr hout)) a w':=by
   refine hr.change (fun b hb hn=>hext.block b hb fun ho=>hn (hOmc b ho)) hext.size hext.shape hext.os hext.tape hext.output hchain hown2 (upsEnv _ _) (fun k hk=>(upsMade _ _ _).2 (.inl hk)) (fun k i=>?_) (fun k i blk' hb=>?_) (fun k i x k' i' x' hx hx' hn hn' hbb=>?_) (fun k i x hx hn=>?_) (fun k hk i x hx=>?_) (fun k hk=>?_) (fun k i blk' hb=>?_)
   ·cases hσk:σ' k with
    | none=>rw [hm2n k i hσk,hB k hσk];exact hr.dom k i
    | some k0 =>
     rw [hm2s k k0 i hσk,hA k k0 hσk];have:=hH.dom k0 i;rw [lookH_heapL,hout_at k k0 hσk] at this;simpa using this
   ·cases hσk:σ' k with
    | none =>
     rw [hB k hσk] at hb;obtain ⟨x,hx,_⟩:=hr.heap k i blk' hb;exact ⟨x,by rw [hm2n k i hσk];exact hx,.inl ⟨hb,hx,hkeepw k i x (hσn k hσk) hx⟩⟩
    | some k0 =>
     rw [hA k k0 hσk] at hb;cases i with
     | succ i=>simp at hb
     | zero =>
      simp at hb;subst hb;obtain ⟨x,hx,hBR⟩:=hH.blk k0 0 (outB hout k0) (by rw [lookH_heapL,hout_at k k0 hσk];rfl);refine ⟨x,by rw [hm2s k k0 0 hσk];exact hx,.inr ?_⟩;rcases hfl with hbo | ⟨_,hflo⟩
      ·exact BRel.ren hmm (fun hv=>toR (.inl hbo) hv) hBR
      ·have hfb:(outB hout k0).flatB=true:=List.all_eq_true.1 hflo (k0,outB hout k0) (look_mem (hout_at k k0 hσk));refine BRel.ren (F:=Forb Γ m2) hmm (fun hv=>?_) (hBR.flat hfb);exact hv.tr (fun b _ hn=>⟨rfl,hn⟩) (Nat.le_refl _) (fun _ _ _ h=>h) fun k0 k hk i x' hx'=>by
        rw [hm2s k k0 i ((hσ' k0 k).2 hk)] at hx';exact ⟨x',hx',.inl rfl⟩
   ·have mixed:∀ k i x k' i' x',σ' k=none→m k i=some x→(∃ k0,σ' k'=some k0∧m' k0 i'=some x')→x.nil=false→x'.nil=false→x.b=x'.b→False:=by
     intro k i x k' i' x' hk hx ⟨k0,hk0,hx'⟩ hn hn' hbb;have hlt:=(hr.fr k i x hx hn).2.1;rcases hnew k0 i' x' hx' hn' with ⟨k2,i2,x2,hx2,hn2,hb2⟩ | hge
     ·obtain ⟨k3,h3,hx3⟩:=hmc k2 i2 x2 hx2;obtain ⟨rfl,_⟩:=hr.inj k3 i2 x2 k i x hx3 hx hn2 hn (hb2.trans hbb.symm);have:=(hσ' k2 k3).2 (hmpsub k2 k3 h3);rw [hk] at this;cases this
     ·omega
    cases hσk:σ' k with
    | none =>
     rw [hm2n k i hσk] at hx;cases hσk':σ' k' with
     | none=>rw [hm2n k' i' hσk'] at hx';exact hr.inj k i x k' i' x' hx hx' hn hn' hbb
     | some k0 =>
      rw [hm2s k' k0 i' hσk'] at hx';exact (mixed k i x k' i' x' hσk hx ⟨k0,hσk',hx'⟩ hn hn' hbb).elim
    | some k0 =>
     rw [hm2s k k0 i hσk] at hx;cases hσk':σ' k' with
     | none =>
      rw [hm2n k' i' hσk'] at hx';exact (mixed k' i' x' k i x hσk' hx' ⟨k0,hσk,hx⟩ hn' hn hbb.symm).elim
     | some k1 =>
      rw [hm2s k' k1 i' hσk'] at hx';obtain ⟨rfl,rfl⟩:=hH.inj k0 i x k1 i' x' hx hx' hn hn' hbb;have h1:=(hσ' k0 k).1 hσk;rw [(hσ' k0 k').1 hσk'] at h1;cases h1;exact ⟨rfl,rfl⟩
   ·cases hσk:σ' k with
    | none =>
     rw [hm2n k i hσk] at hx;obtain ⟨h1,h2,h3⟩:=hr.fr k i x hx hn;exact ⟨h1,Nat.lt_of_lt_of_le h2 hsize,h3⟩
    | some k0 =>
     rw [hm2s k k0 i hσk] at hx;obtain ⟨h1,h2⟩:=hH.fr k0 i x hx hn;refine ⟨fun hf=>h1 (.inl hf),h2,?_⟩;rcases hnew k0 i x hx hn with ⟨k2,i2,x2,hx2,hn2,hb2⟩ | hge
     ·obtain ⟨k3,h3,hx3⟩:=hmc k2 i2 x2 hx2;have:=(hr.fr k3 i2 x2 hx3 hn2).2.2
      rwa [hb2] at this
     ·have:=hr.ext.size;exact .inr (by omega)
   ·obtain ⟨x1,h1,h2⟩:=hchain k (hr.useK k hk) i x hx;obtain ⟨x0,h3,h4⟩:=hr.keep k hk i x1 h1;exact ⟨x0,h3,h4.trans h2⟩
   ·cases hσk:σ' k with
    | none=>rw [hB k hσk] at hk;exact (upsMade _ _ _).2 (.inl (hr.useH k hk))
    | some k0=>exact hused k0 k ((hσ' k0 k).1 hσk)
   ·cases hσk:σ' k with
    | none=>rw [hB k hσk] at hb;exact Blk.within_mono (fun j hj=>(upsMade _ _ _).2 (.inl hj)) (hr.useB k i blk' hb)
    | some k0 =>
     rw [hA k k0 hσk] at hb;cases i with
     | succ i=>simp at hb
     | zero =>
      simp at hb;subst hb;have hrn:∀ v:V,∀ q∈(v.ren (look (mp++fr))).sites,(s.ups (upsOf mp fr hout)).used q=true:=fun v q hq=>by
       obtain ⟨t,_,ht⟩:=ren_sites v q hq;exact hused t q ht
      generalize outB hout k0=b;cases b with
      | rows sz rows ks =>
       cases ks with
       | none =>
        intro i r j v hi hj q hq;simp only [List.getElem?_map,Option.map_eq_some_iff] at hi;obtain ⟨r',_,rfl⟩:=hi;rw [renL_eq,List.getElem?_map,Option.map_eq_some_iff] at hj;obtain ⟨v',_,rfl⟩:=hj;exact hrn v' q hq
       | some l =>
        simp only [Blk.ren];split
        ·rename_i hfix;intro q hq;exact hused _ _ (fixB_mem hfix q hq)
        ·trivial
      | map es clock ks =>
       cases ks with
       | none =>
        intro i b k v hi q hq;simp only [List.getElem?_map,Option.map_eq_some_iff] at hi;obtain ⟨p,_,he⟩:=hi;cases he;exact hrn _ q hq
       | some l =>
        simp only [Blk.ren];split
        ·rename_i hfix;intro q hq;exact hused _ _ (fixB_mem hfix q hq)
        ·trivial
      | iter s2 i2 clock seen =>
       simp only [Blk.ren];split
       ·rename_i s3 hs3;exact hused _ _ hs3
       ·trivial
      | gone=>trivial
  refine ⟨m2,?_⟩;refine hr'.putO (by rw [hN];exact hd) (toR (hfl.imp id (·.1)) hcv) fun q hq=>?_;obtain ⟨t,_,ht⟩:=ren_sites v q hq;exact hused t q ht
end
end Go.Sx
namespace Go.Sx
open Go
def RowF (H:Nat→List Blk) (bo:List Nat):List V→List V→Prop
 | [],[]=>True
 | u::us,v::vs=>(Lent H bo u v∧v.one=true)∧RowF H bo us vs
 | _,_=>False
def RowsF (H:Nat→List Blk) (bo:List Nat):List (List V)→List (List V)→Prop
 | [],[]=>True
 | u::us,v::vs=>RowF H bo u v∧RowsF H bo us vs
 | _,_=>False
inductive BLent (H:Nat→List Blk) (bo:List Nat):Blk→Blk→Prop
 | refl (b:Blk):BLent H bo b b
 | rows (sz:Nat) (rs rs1:List (List V)):RowsF H bo rs rs1→BLent H bo (.rows sz rs none) (.rows sz rs1 none)
 | rowsF (sz:Nat) (rs rs1:List (List V)) (ks:Option (List Nat)):rs.length=rs1.length→(∀ (i:Nat) r1,rs1[i]?=some r1→∃ r,rs[i]?=some r∧r.length=r1.length∧∀ (j:Nat) v1,r1[j]?=some v1→∃ v,r[j]?=some v∧Lent H bo v v1∧v1.one=true∧v1.sites=[])→BLent H bo (.rows sz rs ks) (.rows sz rs1 (some []))
 | mapF (es es1:List (Nat×V×V)) (clock:Nat) (ks:Option (List Nat)):es.length=es1.length→(∀ (i:Nat) b k v1,es1[i]?=some (b,k,v1)→∃ v,es[i]?=some (b,k,v)∧Lent H bo v v1∧v1.sites=[])→BLent H bo (.map es clock ks) (.map es1 clock (some []))
 | mapL (es es1:List (Nat×V×V)) (clock:Nat) (ks:Option (List Nat)) (l:List Nat):es.length=es1.length→(∀ (i:Nat) b k v1,es1[i]?=some (b,k,v1)→∃ v,es[i]?=some (b,k,v)∧Lent H bo v v1∧∀ s∈v1.sites,s∈l)→BLent H bo (.map es clock ks) (.map es1 clock (some l))
 | pure (sz:Nat) (rs:List (List V)) (ks:Option (List Nat)):(∀ r∈rs,∀ v∈r,v.sites=[])→BLent H bo (.rows sz rs ks) (.rows sz rs (some []))
theorem RowF.get {H:Nat→List Blk}{bo:List Nat}:∀ {us vs:List V},RowF H bo us vs→us.length=vs.length∧∀ (j:Nat) v,vs[j]?=some v→∃ u,us[j]?=some u∧Lent H bo u v∧v.one=true
 | [],[],_=>⟨rfl,by simp⟩
 | u::us,v::vs,h=>by
  obtain ⟨h1,h2⟩:=RowF.get h.2;refine ⟨by simp [h1],fun j a ha=>?_⟩;cases j with
  | zero=>simp at ha;subst ha;exact ⟨u,rfl,h.1⟩
  | succ j=>exact h2 j a (by simpa using ha)
 | [],_::_,h=>h.elim
 | _::_,[],h=>h.elim
theorem RowsF.get {H:Nat→List Blk}{bo:List Nat}:∀ {us vs:List (List V)},RowsF H bo us vs→us.length=vs.length∧∀ (j:Nat) v,vs[j]?=some v→∃ u,us[j]?=some u∧RowF H bo u v
 | [],[],_=>⟨rfl,by simp⟩
 | u::us,v::vs,h=>by
  obtain ⟨h1,h2⟩:=RowsF.get h.2;refine ⟨by simp [h1],fun j a ha=>?_⟩;cases j with
  | zero=>simp at ha;subst ha;exact ⟨u,rfl,h.1⟩
  | succ j=>exact h2 j a (by simpa using ha)
 | [],_::_,h=>h.elim
 | _::_,[],h=>h.elim
theorem BLent.rel [Glob] {Γ:Ctx}{m:MM}{s:ASt}{a:Act}{w:World}(hr:Rel Γ m s a w) {H:Nat→List Blk}{bo:List Nat}(hH:∀ k,memB k bo=true→s.heap k=H k) {F':Nat→Prop}(hF:∀ b,F' b→Forb Γ m b)
  (hbo:∀ k i x,memB k bo=true→m k i=some x→x.nil=false→¬ F' x.b) {b b1:Blk}{x:MB}(hl:BLent H bo b b1) (hB:BRel w (Forb Γ m) m x b) {m':MM}{ρ:Nat→Option Nat}(hm:∀ s s',ρ s=some s'→∀ i x',m' s' i=some x'→∃ x,m s i=some x∧Adv x x') (hv:∀ {v c},VRel w F' m v c→VRel w F' m' (v.ren ρ) c):BRel w F' m' x (b1.ren ρ):=by
 cases hl with
 | refl=>exact BRel.ren hm (fun h=>hv (h.mono (fun b _ hn=>⟨rfl,fun hf=>hn (hF b hf)⟩) (Nat.le_refl _) (fun _ _ _ h=>h) (fun _ _ x hx=>⟨x,hx,.inl rfl⟩))) hB
 | rows sz rs rs1 hrs =>
  obtain ⟨b1,b2,b3,b4,b5,b6⟩:=hB;obtain ⟨hl,hg⟩:=hrs.get;have h1:BRel w F' m x (.rows sz rs1 none):=by
   refine ⟨b1,by rw [b2,hl],fun i r hi=>?_,fun hn=>?_,fun hn=>by rw [←hl];exact b5 hn,fun i r j v hi hj=>?_⟩
   ·obtain ⟨u,hu,hrow⟩:=hg i r hi;rw [←hrow.get.1];exact b3 i u hu
   ·have:=b4 hn;rw [this] at hl;exact List.length_eq_zero_iff.1 hl.symm
   ·obtain ⟨r0,hr0,hrow⟩:=hg i r hi;obtain ⟨u,hu,hlent,hone⟩:=hrow.get.2 j v hj;obtain ⟨g1,g2,c,g3,g4,g5⟩:=b6 i r0 j u hr0 hu;exact ⟨hone,(fun l hl=>by cases hl),c,g3,g4,Lent.rel hr hH hF hbo hlent g5⟩
  exact BRel.ren hm hv h1
 | rowsF sz rs rs1 ks hlen hrs =>
  obtain ⟨b1,b2,b3,b4,b5,b6⟩:=hB;refine ⟨b1,by rw [b2,hlen],fun i r1 hi=>?_,fun hn=>?_,fun hn=>by rw [←hlen];exact b5 hn,fun i r1 j v1 hi hj=>?_⟩
  ·obtain ⟨r,hr0,hl,_⟩:=hrs i r1 hi;rw [←hl];exact b3 i r hr0
  ·have:=b4 hn;rw [this] at hlen;exact List.length_eq_zero_iff.1 hlen.symm
  ·obtain ⟨r,hr0,_,hrow⟩:=hrs i r1 hi;obtain ⟨v,hv0,hlent,hone,hpure⟩:=hrow j v1 hj;obtain ⟨g1,g2,c,g3,g4,g5⟩:=b6 i r j v hr0 hv0;have h1:=hv (Lent.rel hr hH hF hbo hlent g5);rw [V.ren_pure hpure] at h1;exact ⟨hone,(fun l hl q hq=>by rw [hpure] at hq;cases hq),c,g3,g4,h1⟩
 | mapF es es1 clock ks hlen hes =>
  obtain ⟨b1,b2,ents,b3,b4,b5,b6,b7⟩:=hB;refine ⟨b1,b2,ents,b3,by rw [b4,hlen],b5,b6,fun i b k v1 hi=>?_⟩;obtain ⟨v,h5,hlent,hpure⟩:=hes i b k v1 hi;obtain ⟨e,g1,g0,g2,g3,g4,g5⟩:=b7 i b k v h5;have h1:=hv (Lent.rel hr hH hF hbo hlent g5);rw [V.ren_pure hpure] at h1;have h2:=hv (g4.mono (F':=F') (fun b _ hn=>⟨rfl,fun hf=>hn (hF b hf)⟩) (Nat.le_refl _) (fun _ _ _ h=>h) (fun _ _ x hx=>⟨x,hx,.inl rfl⟩));rw [V.ren_pure g2] at h2;exact ⟨e,g1,g0,g2,(fun l hl q hq=>by rw [hpure] at hq;cases hq),h2,h1⟩
 | mapL es es1 clock ks l hlen hes =>
  obtain ⟨b1,b2,ents,b3,b4,b5,b6,b7⟩:=hB;have h1:BRel w F' m x (.map es1 clock (some l)):=by
   refine ⟨b1,b2,ents,b3,by rw [b4,hlen],b5,b6,fun i b k v1 hi=>?_⟩;obtain ⟨v,h5,hlent,hsl⟩:=hes i b k v1 hi;obtain ⟨e,g1,g0,g2,g3,g4,g5⟩:=b7 i b k v h5;exact ⟨e,g1,g0,g2,(fun l' hl=>by cases hl;exact hsl),g4.mono (F':=F') (fun b _ hn=>⟨rfl,fun hf=>hn (hF b hf)⟩) (Nat.le_refl _) (fun _ _ _ h=>h) (fun _ _ x hx=>⟨x,hx,.inl rfl⟩),Lent.rel hr hH hF hbo hlent g5⟩
  exact BRel.ren hm hv h1
 | pure sz rs ks hp =>
  obtain ⟨b1,b2,b3,b4,b5,b6⟩:=hB;refine ⟨b1,b2,b3,b4,b5,fun i r j v hi hj=>?_⟩;obtain ⟨g1,g2,c,g3,g4,g5⟩:=b6 i r j v hi hj;have h0:=hp r (List.mem_of_getElem? hi) v (List.mem_of_getElem? hj);have h1:=hv (g5.mono (F':=F') (fun b _ hn=>⟨rfl,fun hf=>hn (hF b hf)⟩) (Nat.le_refl _) (fun _ _ _ h=>h) (fun _ _ x hx=>⟨x,hx,.inl rfl⟩));rw [V.ren_pure h0] at h1;exact ⟨g1,(fun l hl q hq=>by rw [h0] at hq;cases hq),c,g3,g4,h1⟩
def Blk.famB:Blk→Bool
 | .rows _ _ (some [])=>true
 | .map _ _ (some [])=>true
 | _=>false
theorem Blk.famB_ren {b:Blk}(h:b.famB=true) (ρ:Nat→Option Nat):b.ren ρ=b:=by
 cases b with
 | rows sz rs ks=>cases ks with
  | none=>cases h
  | some l=>cases l with
   | nil=>rfl
   | cons _ _=>cases h
 | map es c ks=>cases ks with
  | none=>cases h
  | some l=>cases l with
   | nil=>rfl
   | cons _ _=>cases h
 | _=>cases h
def goneB (l:List Blk):Bool:=match l with | [.gone]=>true | _=>false
theorem famGone {l:List Blk}(h:∀ b∈l,b.famB=true):goneB l=false:=by
 cases l with
 | nil=>rfl
 | cons b l=>cases l with
  | nil=>have:=h b (by simp);cases b<;>first | rfl | cases this
  | cons _ _=>cases b<;>rfl
theorem famWithin {U:Nat→Bool}{b:Blk}(h:b.famB=true):b.within U:=by
 cases b with
 | rows sz rs ks=>cases ks with
  | none=>cases h
  | some l=>cases l with
   | nil=>intro k hk;cases hk
   | cons _ _=>cases h
 | map es c ks=>cases ks with
  | none=>cases h
  | some l=>cases l with
   | nil=>intro k hk;cases hk
   | cons _ _=>cases h
 | iter=>cases h
 | gone=>cases h
structure LeG (K0:List Nat) (mp:List (Nat×Nat)) (bo gs:List Nat) (s s':St):Prop where
 nd1:nodupB (mp.map (·.1))=true
 nd2:nodupB (mp.map (·.2))=true
 ndb:(bo.all fun k=>match look mp k with | none=>true | some k'=>match lookH s'.heap k' with | []=>true | l=>goneB l)=true
 env:∀ p∈s'.env,∃ u,Lent (lookH s.heap) bo (lookE s.env p.1) u∧u.ren (look mp)=p.2
 heap:∀ p∈s'.heap,(∃ k b b1,look mp k=some p.1∧lookH s.heap k=[b]∧(BLent (lookH s.heap) bo b b1∨b1=.gone)∧p.2=[b1.ren (look mp)])∨(memB p.1 gs=true∧(∃ b,lookH s.heap p.1=[b])∧p.2=[.gone])∨(∃ k,look mp k=some p.1∧p.2=lookH s.heap k∧∀ b∈p.2,b.famB=true)
 used:∀ p∈mp,memB p.2 s'.used=true
 gsd:(gs.all fun k=>match memB k (mp.map (·.2)) with | true=>false | false=>true)=true
 gused:(gs.all fun k=>memB k s'.used)=true
 keep:∀ k∈K0,look mp k=some k∨memB k gs=true
def MB.dead (x:MB):MB:={ x with n:=x.n+1,nil:=true }
theorem Rel.leG [Glob] {Γ:Ctx}{m:MM}{s s':St}{a:Act}{w:World}{mp:List (Nat×Nat)}{bo gs:List Nat}(hr:Rel Γ m s.den a w) (hl:LeG Γ.K0 mp bo gs s s'):∃ m',Rel Γ m' s'.den a w:=by
 obtain ⟨nd1,nd2,ndb,henv,hheap,hused,gsd,gused,hkeep⟩:=hl
 let σ:Nat→Option Nat:=look (swapL mp)
 have hσ:∀ k k',σ k'=some k↔look mp k=some k':=fun k k'=>look_swap nd1 nd2;have gsno:∀ k k',memB k' gs=true→look mp k≠some k':=fun k k' hg hk=>by
  have h1:=List.all_eq_true.1 gsd k' (memB_true hg);rw [memB_of (mem_snd ((look_iff nd1).1 hk))] at h1;cases h1
 let m':MM:=fun k' i=>match lookH s'.heap k' with | []=>none | l=>match memB k' gs with | true=>(m k' i).map MB.dead | false=>match σ k' with | some k=>(match goneB l with | true=>(m k i).map MB.dead | false=>m k i) | none=>none
 have hm':∀ k' i x,m' k' i=some x→lookH s'.heap k'≠[]∧∃ k x0,(look mp k=some k'∨(k=k'∧memB k' gs=true))∧m k i=some x0∧Adv x0 x∧(x.nil=false→x=x0∧goneB (lookH s'.heap k')=false∧look mp k=some k'):=fun k' i x hx=>by
  simp only [m'] at hx;split at hx
  ·cases hx
  ·rename_i hne;split at hx
   ·rename_i hgs;rw [Option.map_eq_some_iff] at hx;obtain ⟨x0,h0,rfl⟩:=hx;exact ⟨hne,k',x0,.inr ⟨rfl,hgs⟩,h0,.inr (Nat.lt_succ_self _),fun h=>by cases h⟩
   ·split at hx
    ·rename_i k hk;refine ⟨hne,k,?_⟩;split at hx
     ·rename_i hg;rw [Option.map_eq_some_iff] at hx;obtain ⟨x0,h0,rfl⟩:=hx;exact ⟨x0,.inl ((hσ k k').1 hk),h0,.inr (Nat.lt_succ_self _),fun h=>by cases h⟩
     ·rename_i hg;exact ⟨x,.inl ((hσ k k').1 hk),hx,.inl rfl,fun _=>⟨rfl,hg,(hσ k k').1 hk⟩⟩
    ·cases hx
 have hmm:∀ k k' i,lookH s'.heap k'≠[]→look mp k=some k'→m' k' i=match goneB (lookH s'.heap k') with | true=>(m k i).map MB.dead | false=>m k i:=fun k k' i hne hk=>by
  show (match lookH s'.heap k' with | []=>none | l=>match memB k' gs with | true=>(m k' i).map MB.dead | false=>match σ k' with | some k=>(match goneB l with | true=>(m k i).map MB.dead | false=>m k i) | none=>none)=_;have hg:memB k' gs=false:=by
   cases hg:memB k' gs with
   | false=>rfl
   | true=>exact absurd hk (gsno k k' hg)
  rw [(hσ k k').2 hk,hg];cases hq:lookH s'.heap k' with
  | nil=>exact absurd hq hne
  | cons _ _=>rfl
 have hmg:∀ k' i,lookH s'.heap k'≠[]→memB k' gs=true→m' k' i=(m k' i).map MB.dead:=fun k' i hne hg=>by
  show (match lookH s'.heap k' with | []=>none | l=>match memB k' gs with | true=>(m k' i).map MB.dead | false=>match σ k' with | some k=>(match goneB l with | true=>(m k i).map MB.dead | false=>m k i) | none=>none)=_;rw [hg];cases hq:lookH s'.heap k' with
  | nil=>exact absurd hq hne
  | cons _ _=>rfl
 have hat:∀ k',lookH s'.heap k'≠[]→(∃ k b b1,look mp k=some k'∧s.den.heap k=[b]∧(BLent (lookH s.heap) bo b b1∨b1=.gone)∧s'.den.heap k'=[b1.ren (look mp)])∨(memB k' gs=true∧(∃ b,s.den.heap k'=[b])∧s'.den.heap k'=[.gone])∨(∃ k,look mp k=some k'∧s'.den.heap k'=s.den.heap k∧∀ b∈s'.den.heap k',b.famB=true):=fun k' hne=>by
  unfold lookH at hne;cases hq:look s'.heap k' with
  | none=>rw [hq] at hne;simp at hne
  | some b =>
   rcases hheap (k',b) (look_mem hq) with ⟨k,b2,b3,h1,h2,h4,h3⟩ | ⟨h1,h2,h3⟩ | ⟨k,h1,h2,h3⟩
   ·refine .inl ⟨k,b2,b3,h1,h2,h4,?_⟩;simp only [St.den,lookH,hq];exact h3
   ·refine .inr (.inl ⟨h1,h2,?_⟩);simp only [St.den,lookH,hq];exact h3
   ·refine .inr (.inr ⟨k,h1,?_,?_⟩)
    ·simp only [St.den,lookH,hq];exact h2
    ·simp only [St.den,lookH,hq];exact h3
 have hF:∀ b,Forb Γ m' b→Forb Γ m b:=fun b hb=>hb.imp id fun ⟨k',i,x,hx,hn,hxb⟩=>by
  obtain ⟨_,k,x0,_,hx2,_,hx3⟩:=hm' k' i x hx;obtain ⟨rfl,_⟩:=hx3 hn;exact ⟨k,i,x,hx2,hn,hxb⟩
 have hbo:∀ k i x,memB k bo=true→m k i=some x→x.nil=false→¬ Forb Γ m' x.b:=fun k i x hk hx hn hf=>by
  rcases hf with hf | ⟨k',i2,x2,hx2,hn2,hb2⟩
  ·exact (hr.fr k i x hx hn).1 hf
  ·obtain ⟨hne,k2,x0,_,hx3,_,hx4⟩:=hm' k' i2 x2 hx2;obtain ⟨rfl,hg,h2⟩:=hx4 hn2;obtain ⟨rfl,_⟩:=hr.inj k2 i2 x2 k i x hx3 hx hn2 hn hb2;have h3:=List.all_eq_true.1 ndb k2 (memB_true hk);rw [h2] at h3;cases hq:lookH s'.heap k' with
   | nil=>exact hne hq
   | cons a l =>
    simp only [hq] at h3;rw [hq] at hg;rw [hg] at h3;cases h3
 have hmm1:∀ k k',look mp k=some k'→∀ i x',m' k' i=some x'→∃ x,m k i=some x∧Adv x x':=fun k k' hk i x' hx'=>by
  obtain ⟨hne,k2,x0,h2,hx2,ha,_⟩:=hm' k' i x' hx';have h2:look mp k2=some k':=h2.resolve_right fun h=>gsno k k' h.2 hk;have:=(hσ k2 k').2 h2;rw [(hσ k k').2 hk] at this;cases this;exact ⟨x0,hx2,ha⟩
 have to1:∀ {v c},VRel w (Forb Γ m') m v c→VRel w (Forb Γ m') m' (v.ren (look mp)) c:=fun hv=>hv.tr (fun b _ hn=>⟨rfl,hn⟩) (Nat.le_refl _) (fun _ _ _ h=>h) hmm1;have himg:∀ (v:V),∀ q∈(v.ren (look mp)).sites,s'.den.used q=true:=fun v q hq=>by
  obtain ⟨t,_,ht⟩:=ren_sites v q hq;exact hused _ ((look_iff nd1).1 ht)
 have henv':∀ t,∃ u,s'.den.env t=u∧(u=.dead∨∃ u0,Lent (lookH s.heap) bo (s.den.env t) u0∧u0.ren (look mp)=u):=fun t=>by
  refine ⟨_,rfl,?_⟩;simp only [St.den,lookE];cases hq:look s'.env t with
  | none=>exact .inl rfl
  | some v =>
   obtain ⟨u,h1,h2⟩:=henv _ (look_mem hq);exact .inr ⟨u,h1,h2⟩
 refine ⟨m',hr.size,hr.pin,hr.defers,fun t=>?_,fun k' i=>?_,fun k' i blk hb=>?_,fun k i x k' i' x' hx hx' hn hn' hb=>?_,fun k i x hx hn=>?_,hr.frw,fun k hk i x hx=>?_,hr.ext,fun t q hq=>?_,fun k' hne=>?_,fun k' i blk hb=>?_,fun k hk=>?_,hr.glob.tr (fun b _ hn=>⟨rfl,fun hf=>hn (hF b hf)⟩) (Nat.le_refl _)⟩
 ·obtain ⟨u,hu,hd | ⟨u0,h1,h2⟩⟩:=henv' t
  ·rw [hu,hd];exact .dead _
  ·rw [hu,←h2];exact to1 (Lent.rel hr (fun _ _=>rfl) hF hbo h1 (hr.env t))
 ·by_cases hne:lookH s'.heap k'=[]
  ·simp [m',St.den,hne]
  ·rcases hat k' hne with ⟨k,b,b1,h1,h2,hbl,h3⟩ | ⟨h1,⟨b,h2⟩,h3⟩ | ⟨k,h1,h2,h3⟩
   ·rw [hmm k k' i hne h1,h3];have:=hr.dom k i;rw [h2] at this;split
    ·simpa using this
    ·simpa using this
   ·rw [hmg k' i hne h1,h3];have:=hr.dom k' i;rw [h2] at this;simpa using this
   ·rw [hmm k k' i hne h1,famGone (l:=lookH s'.heap k') h3];have:=hr.dom k i;rw [←h2] at this;exact this
 ·have hne:lookH s'.heap k'≠[]:=fun e=>by simp only [St.den] at hb;rw [e] at hb;simp at hb
  rcases hat k' hne with ⟨k,b,b1,h1,h2,hbl,h3⟩ | ⟨h1,⟨b,h2⟩,h3⟩ | ⟨k,h1,h2,h3⟩
  rotate_left
  ·rw [h3] at hb;cases i with
   | succ i=>simp at hb
   | zero =>
    simp at hb;subst hb;obtain ⟨x,hx,_⟩:=hr.heap k' 0 b (by rw [h2];rfl);exact ⟨x.dead,by rw [hmg k' 0 hne h1,hx];rfl,trivial⟩
  ·have hf:=h3 _ (List.mem_of_getElem? hb);rw [h2] at hb;obtain ⟨x,hx,hB⟩:=hr.heap k i blk hb;refine ⟨x,by rw [hmm k k' i hne h1,famGone (l:=lookH s'.heap k') h3];exact hx,?_⟩;have:=BRel.ren (F':=Forb Γ m') hmm1 (fun {v c}(h:VRel w (Forb Γ m) m v c)=>to1 (h.mono (fun b _ hn=>⟨rfl,fun hf=>hn (hF b hf)⟩) (Nat.le_refl _) (fun _ _ _ h=>h) (fun _ _ x hx=>⟨x,hx,.inl rfl⟩))) hB
   rwa [Blk.famB_ren hf] at this
  rw [h3] at hb;cases i with
  | succ i=>simp at hb
  | zero =>
   simp at hb;subst hb;obtain ⟨x,hx,hB⟩:=hr.heap k 0 b (by rw [h2];rfl);rw [hmm k k' 0 hne h1];have h3':lookH s'.heap k'=[b1.ren (look mp)]:=h3;rw [h3'];cases hg:goneB [b1.ren (look mp)] with
   | true =>
    refine ⟨x.dead,by simp [hx],?_⟩;have:b1.ren (look mp)=.gone:=by
     generalize b1.ren (look mp)=B at hg;cases B<;>first | rfl | cases hg
    rw [this];trivial
   | false =>
    refine ⟨x,hx,?_⟩;rcases hbl with hbl | rfl
    ·exact BLent.rel hr (fun _ _=>rfl) hF hbo hbl hB hmm1 to1
    ·cases hg
 ·obtain ⟨_,k1,x1,_,hx1,_,hx1'⟩:=hm' k i x hx;obtain ⟨_,k2,x2,_,hx2,_,hx2'⟩:=hm' k' i' x' hx';obtain ⟨rfl,_,h1⟩:=hx1' hn;obtain ⟨rfl,_,h2⟩:=hx2' hn';obtain ⟨rfl,rfl⟩:=hr.inj k1 i x k2 i' x' hx1 hx2 hn hn' hb;rw [h1] at h2;cases h2;exact ⟨rfl,rfl⟩
 ·obtain ⟨_,k1,x1,h1,hx1,_,hx1'⟩:=hm' k i x hx;obtain ⟨rfl,_⟩:=hx1' hn;exact hr.fr k1 i x hx1 hn
 ·obtain ⟨_,k1,x1,h1,hx1,ha,_⟩:=hm' k i x hx;have hk1:k1=k:=by
   rcases hkeep k hk with h2 | h2
   ·rcases h1 with h1 | ⟨e,_⟩
    ·have h3:=(hσ k1 k).2 h1;rw [(hσ k k).2 h2] at h3;cases h3;rfl
    ·exact e
   ·rcases h1 with h1 | ⟨e,_⟩
    ·exact absurd h1 (gsno k1 k h2)
    ·exact e
  subst hk1;obtain ⟨x0,g1,g2⟩:=hr.keep k1 hk i x1 hx1;exact ⟨x0,g1,g2.trans ha⟩
 ·obtain ⟨u,hu,hd | ⟨u0,h1,h2⟩⟩:=henv' t
  ·rw [hu,hd] at hq;simp [V.sites] at hq
  ·rw [hu,←h2] at hq;exact himg u0 q hq
 ·rcases hat k' hne with ⟨k,b,b1,h1,h2,hbl,h3⟩ | ⟨h1,_⟩ | ⟨k,h1,_⟩
  ·exact hused _ ((look_iff nd1).1 h1)
  ·exact List.all_eq_true.1 gused k' (memB_true h1)
  ·exact hused _ ((look_iff nd1).1 h1)
 ·have hne:lookH s'.heap k'≠[]:=fun e=>by simp only [St.den] at hb;rw [e] at hb;simp at hb
  rcases hat k' hne with ⟨k,b,b1,h1,h2,hbl,h3⟩ | ⟨h1,⟨b,h2⟩,h3⟩ | ⟨k,h1,h2,h3⟩
  rotate_left
  ·rw [h3] at hb;cases i with
   | succ i=>simp at hb
   | zero=>simp at hb;subst hb;trivial
  ·exact famWithin (h3 _ (List.mem_of_getElem? hb))
  rw [h3] at hb;cases i with
  | succ i=>simp at hb
  | zero =>
   simp at hb;subst hb;cases b1 with
   | rows sz rows ks =>
    cases ks with
    | none =>
     intro i r j v hi hj q hq;simp only [List.getElem?_map,Option.map_eq_some_iff] at hi;obtain ⟨r',_,rfl⟩:=hi;rw [renL_eq,List.getElem?_map,Option.map_eq_some_iff] at hj;obtain ⟨v',_,rfl⟩:=hj;exact himg v' q hq
    | some l =>
     simp only [Blk.ren];split
     ·rename_i hfix;intro q hq;exact hused _ ((look_iff nd1).1 (fixB_mem hfix q hq))
     ·trivial
   | map es clock ks =>
    cases ks with
    | none =>
     intro i b k v hi q hq;simp only [List.getElem?_map,Option.map_eq_some_iff] at hi;obtain ⟨p,_,he⟩:=hi;cases he;exact himg _ q hq
    | some l =>
     simp only [Blk.ren];split
     ·rename_i hfix;intro q hq;exact hused _ ((look_iff nd1).1 (fixB_mem hfix q hq))
     ·trivial
   | iter s2 i2 clock seen =>
    simp only [Blk.ren];split
    ·rename_i s3 hs3;exact hused _ ((look_iff nd1).1 hs3)
    ·trivial
   | gone=>trivial
 ·rcases hkeep k hk with h | h
  ·exact hused _ ((look_iff nd1).1 h)
  ·exact List.all_eq_true.1 gused k (memB_true h)
def LeX (K0:List Nat) (s s':St):Prop:=∃ mp bo gs,LeG K0 mp bo gs s s'
section
variable {P:Program}{T:List (Nat×TI)}{Γ:Ctx}{Q:Exit→St→Prop}{st:St}
theorem W.leG [Glob] {c:Code}{st':St}{mp:List (Nat×Nat)}{bo gs:List Nat}(hl:LeG Γ.K0 mp bo gs st st') (h:W P T Γ c Q st'):W P T Γ c Q st:=
 ⟨fun m a w hr=>let ⟨m',hr'⟩:=hr.leG hl;h.out m' a w hr'⟩
theorem W.loopG [Glob] {c:Code}(I:Nat→St→Prop) (n₀:Nat) (s₀:St) (h₀:I n₀ s₀) (hl:LeX Γ.K0 st s₀)
    (round:∀ n s,I n s→W P T Γ c (thenQ (fun s1=>∃ n' s2,n' < n∧I n' s2∧LeX Γ.K0 s1 s2) Q) s):W P T Γ (.loop c) Q st:=by
  refine ⟨fun m a w hr=>?_⟩;obtain ⟨mp,bo,gs,hl⟩:=hl;obtain ⟨m0,hr0⟩:=hr.leG hl;refine wp_loop_ghost (fun n a w=>∃ s m,I n s∧Rel Γ m s.den a w) (n₀:=n₀) ⟨s₀,m0,h₀,hr0⟩ fun n a w ⟨s,m,hs,hr⟩=>?_;refine wp_mono ((round _ s hs).out m a w hr) fun e a' w' ⟨s',m',h1,h2⟩=>?_;cases e<;>first
    | (obtain ⟨n', s2, hn, hI2, mp, bo, gs, hle⟩ := h1
       obtain ⟨m2, hr2⟩ := h2.leG hle
       exact ⟨n',hn,s2,m2,hI2,hr2⟩)
    | exact ⟨s',m',h1,h2⟩
end
end Go.Sx
namespace Go.Sx
open Go Go.RowKit
theorem Spec.law [Glob] {P:Program}{f:Nat}{args:List V}(sp:Spec P f args [] (.bool true) []) {cargs:List Value}{w:World}(hl:cargs.length=args.length)
  (hv:∀ (j:Nat) u c,args[j]?=some u→cargs[j]?=some c→VRel w (fun _=>False) (fun _ _=>none) u c) (hs:(args.all fun u=>u.sites.isEmpty)=true)
  (hg:GRel w (fun _=>False)) :
  Calls P f cargs.toArray w fun e w'=>e=.returned (.bool true)∧Below w.heap.size w w':=by
 have hF:FrO (fun _=>False) (fun _ _=>none)=fun _=>False:=by
  funext b;simp only [FrO,eq_iff_iff,iff_false];rintro (h | ⟨_,_,_,hx,_⟩)
  ·exact h
  ·cases hx
 refine (sp.calls (fun _=>False) (fun _ _=>none) w cargs hl (fun b hb=>hb.elim) ⟨fun k i=>by simp [heapL,lookH,look],fun k i blk hb=>by simp [heapL,lookH,look] at hb,fun k i x k' i' x' hx=>(by cases hx),fun k i x hx=>(by cases hx),by simp,by rw [hF];exact hg⟩ (fun j u c hj hc=>by rw [hF];exact hv j u c hj hc) (fun u hu k hk=>by
  have:u.sites=[]:=by simpa using List.all_eq_true.1 hs u hu
  rw [this] at hk;cases hk)).mono fun e w' ⟨cv,m',he,hcv,hH,hnew,hkeep,hext⟩=>?_
 subst he;refine ⟨by cases hcv;rfl,hext.os,hext.tape.1,hext.output,hext.size,fun k hk=>hext.block k hk fun ⟨_,_,_,hx,_⟩=>by cases hx⟩
def intRows (k:IntKind) (l:List Int):List (List V):=l.map fun n=>[.int k n]
end Go.Sx
namespace Go.Sx
open Go
section
variable {P:Program}{T:List (Nat×TI)}{Γ:Ctx}{Q:Exit→St→Prop}{st:St}
theorem Rel.know [Glob] {m:MM}{s:ASt}{a:Act}{w:World}(h:Rel Γ m s a w) {t:Nat}{v:V}(hv:VRel w (Forb Γ m) m v (a.tmps.getD t undef)) (hs:∀ k∈v.sites,s.used k=true):Rel Γ m (s.put t v) a w:=by
 refine ⟨h.size,h.pin,h.defers,fun u=>?_,h.dom,h.heap,h.inj,h.fr,h.frw,h.keep,h.ext,fun u=>?_,h.useH,h.useB,h.useK,h.glob⟩
 ·simp only [ASt.put];by_cases hu:u=t
  ·simp only [hu,if_true];exact hv
  ·simp only [hu,if_false];exact h.env u
 ·simp only [ASt.put];by_cases hu:u=t
  ·simp only [hu,if_true];exact hs
  ·simp only [hu,if_false];exact h.useE u
theorem den_env (st:St) (t:Nat) (v:V):St.den ⟨(t,v)::st.env,st.heap,st.used⟩=st.den.put t v:=by
 have:=St.den_putO st (some t) v;exact this
end
end Go.Sx
namespace Go.Sx
open Go
section
variable {P:Program}{T:List (Nat×TI)}
end
end Go.Sx
namespace Go.Sx
open Go
def heapLe (h:List (Nat×List Blk)) (K:List Nat):List (Nat×Blk)→Prop
 | []=>True
 | (k,b)::l=>lookH h k=[b]∧(b.sitesIn fun j=>memB j K)=true∧heapLe h K l
theorem heapLe.get {h:List (Nat×List Blk)}{K:List Nat}:∀ {l:List (Nat×Blk)},heapLe h K l→∀ p∈l,lookH h p.1=[p.2]∧(p.2.sitesIn fun j=>memB j K)=true
 | [],_,p,hp=>by cases hp
 | (k,b)::l,hh,p,hp=>by
  rcases List.mem_cons.1 hp with e | e
  ·subst e;exact ⟨hh.1,hh.2.1⟩
  ·exact heapLe.get hh.2.2 p e
theorem Le.retH {rv v:V}{hp:List (Nat×List Blk)}{us:List Nat}{hout:List (Nat×Blk)}(hv:Less rv v) (hs:(v.sites.all fun k=>memB k (keys hout))=true) (nd:nodupB (keys hout)=true) (hu:((keys hout).all fun k=>memB k us)=true) (hh:heapLe hp (keys hout) hout) :
  Le ⟨[(0,rv)],hp,us⟩ ⟨[(0,v)],heapL hout,keys hout⟩:=by
 refine ⟨fun p hp=>?_,fun k hk=>List.all_eq_true.1 hu k hk,fun p hp k hk=>?_,fun p hp=>?_⟩
 ·simp at hp;subst hp;exact hv
 ·simp at hp;subst hp;exact List.all_eq_true.1 hs k hk
 ·obtain ⟨q,hq,rfl⟩:=List.mem_map.1 hp;obtain ⟨h1,h2⟩:=hh.get q hq;refine ⟨?_,memB_of (mem_key hq),fun blk hb=>?_⟩
  ·simp only [h1,lookH_heapL];rw [show look hout q.1=some q.2 from (look_iff nd).2 hq]
  ·simp at hb;subst hb;exact Blk.sitesIn_within h2
section
variable {T:List (Nat×TI)}{st:St}
theorem retH {fn:Func}{v:V}{hout:List (Nat×Blk)}{l:List V}(hl:resL T st fn.results.toList=some l) (hv:Less (one? l) v) (hs:(v.sites.all fun k=>memB k (keys hout))=true) (nd:nodupB (keys hout)=true) (hu:((keys hout).all fun k=>memB k st.used)=true) (hh:heapLe st.heap (keys hout) hout):RetQ T fn v hout .ret st:=by
 unfold RetQ;exact ⟨trivial,l,hl,Le.retH hv hs nd hu hh⟩
theorem retHn {fn:Func}{v:V}{hout:List (Nat×Blk)}{l:List V}(hl:resL T st fn.results.toList=some l) (hv:Less (one? l) v) (hs:(v.sites.all fun k=>memB k (keys hout))=true) (nd:nodupB (keys hout)=true) (hu:((keys hout).all fun k=>memB k st.used)=true) (hh:heapLe st.heap (keys hout) hout):RetQ T fn v hout .normal st:=by
 unfold RetQ;exact ⟨trivial,l,hl,Le.retH hv hs nd hu hh⟩
end
end Go.Sx
namespace Go.Sx
open Go
def isNilV:V→Bool
 | .nils=>true
 | .sl [] true=>true
 | _=>false
section
variable {P:Program}{T:List (Nat×TI)}{Γ:Ctx}{Q:Exit→St→Prop}{st:St}
theorem W.ownNil [Glob] {c:Code}(t d sz:Nat) (ht:isNilV (lookE st.env t)=true) (hd:memB d st.used=false)
  (h:W P T Γ c Q ⟨(t,.osl d 0 0 0 0)::st.env,(d,[.rows sz [] (some [])])::st.heap,d::st.used⟩):W P T Γ c Q st:=by
 refine ⟨fun m a w hr=>?_⟩;have hv:=hr.env t;have hd':st.den.used d=false:=hd;obtain ⟨h1,h2⟩:=Rel.freshNil hr hd' (sz:=sz) (ks:=some []) (fun k hk=>by cases hk);have hc:∃ ad,a.tmps.getD t undef=.slice ad 0 0:=by
  generalize a.tmps.getD t undef=c at hv;have hv':VRel w (Forb Γ m) m (lookE st.env t) c:=hv;generalize lookE st.env t=v at hv' ht;cases hv' with
  | nils=>exact ⟨none,rfl⟩
  | nilsl full ad=>exact ⟨ad,rfl⟩
  | sl rows full sz b base cap c hF hl hm hf hz hdd h1 ho1 hc hv =>
   cases rows with
   | nil =>
    cases full with
    | true=>have:=hf rfl;exact ⟨_,by rw [this];rfl⟩
    | false=>cases ht
   | cons _ _=>cases ht
  | _=>cases ht
 obtain ⟨ad,hc⟩:=hc;refine h.out (MM.fresh m d ⟨0,0,sz,0,true⟩) a w ?_;rw [show St.den ⟨(t,.osl d 0 0 0 0)::st.env,(d,[.rows sz [] (some [])])::st.heap,d::st.used⟩=(st.den.fresh d (.rows sz [] (some []))).put t (.osl d 0 0 0 0) by
  have h1:=St.den_ups [.fresh d (.rows sz [] (some []))] st
  simp only [St.ups,ASt.ups,List.foldl_cons,List.foldl_nil,ASt.up] at h1
  rw [←h1]
  exact den_env ⟨st.env,(d,[.rows sz [] (some [])])::st.heap,d::st.used⟩ t _]
 refine h1.know ?_ (fun q hq=>?_)
 ·rw [hc];exact h2 ad
 ·simp [V.sites] at hq;subst hq;simp [ASt.fresh]
theorem W.adopt [Glob] {c:Code}(t k d:Nat) {n sz:Nat}{rows:List (List V)}{ks:Option (List Nat)}(ht:lookE st.env t=.osl k 0 0 n n) (hh:lookH st.heap k=[.rows sz rows ks]) (hn:n=rows.length) (hd:memB d st.used=false)
  (h:W P T Γ c Q ⟨(t,.osl d 0 0 n n)::st.env,(d,[.rows sz rows ks])::(k,[.gone])::st.heap,d::st.used⟩):W P T Γ c Q st:=by
 refine ⟨fun m a w hr=>?_⟩;have hv:=hr.env t;have ht':st.den.env t=.osl k 0 0 n n:=ht;rw [ht'] at hv;have hh0:st.den.heap k=[.rows sz rows ks]:=hh;have hh':(st.den.heap k)[0]?=some (.rows sz rows ks):=by rw [hh0];rfl
 obtain ⟨x,hx,hB,hle,hos⟩:=hr.osl_inv hv hh' hn;have hd':st.den.used d=false:=hd;obtain ⟨a1,a2,a3⟩:=Rel.adopt hr hh' hx hd' (o:=0) (l:=n) (by omega);have hrows:(rows.drop 0).take n=rows:=by rw [List.drop_zero,List.take_of_length_le (by omega)]
 rw [hrows] at a1 a2;refine h.out (m.adopt k d x ⟨x.b,x.base+0*x.sz,x.sz,n,x.nil⟩) a w ?_;rw [show St.den ⟨(t,.osl d 0 0 n n)::st.env,(d,[.rows sz rows ks])::(k,[.gone])::st.heap,d::st.used⟩=((st.den.at k 0 .gone).fresh d (.rows sz rows ks)).put t (.osl d 0 0 n n) by
  have h1:=St.den_ups [.upd k 0 .gone,.fresh d (.rows sz rows ks)] st
  simp only [St.ups,ASt.ups,List.foldl_cons,List.foldl_nil,ASt.up,hh,List.set_cons_zero] at h1
  rw [←h1]
  exact den_env ⟨st.env,(d,[.rows sz rows ks])::(k,[.gone])::st.heap,d::st.used⟩ t _]
 refine a1.know ?_ (fun q hq=>?_)
 ·refine .osl _ _ _ _ _ _ (by obtain ⟨ad,cp,hc,_⟩:=hos.len;exact ⟨_,_,_,hc⟩) fun y hy=>?_;have:m.adopt k d x ⟨x.b,x.base+0*x.sz,x.sz,n,x.nil⟩ d 0=some ⟨x.b,x.base+0*x.sz,x.sz,n,x.nil⟩:=by simp [MM.adopt]
  rw [this] at hy;cases hy;exact ⟨Nat.le_refl _,fun _=>⟨by omega,hos.shift⟩⟩
 ·simp [V.sites] at hq;subst hq;simp [ASt.fresh]
theorem W.nilSplit [Glob] {c:Code}(t:Nat) {full:Bool}(ht:lookE st.env t=.sl [] full) (h1:W P T Γ c Q ⟨(t,.nils)::st.env,st.heap,st.used⟩) (h2:W P T Γ c Q ⟨(t,.sle)::st.env,st.heap,st.used⟩):W P T Γ c Q st:=by
 refine ⟨fun m a w hr=>?_⟩;have hv:=hr.env t;have hv':VRel w (Forb Γ m) m (.sl [] full) (a.tmps.getD t undef):=by rw [←ht];exact hv
 have hcase:VRel w (Forb Γ m) m .nils (a.tmps.getD t undef)∨VRel w (Forb Γ m) m .sle (a.tmps.getD t undef):=by
  generalize a.tmps.getD t undef=c at hv';generalize hl:([]:List (List V))=rows at hv';cases hv' with
  | nilsl full ad =>
   cases ad with
   | none=>exact .inl .nils
   | some ad=>exact .inr (.sle ad 0 (.inl rfl))
  | sl rows full sz b base cap c hF hl' hm hf hz hdd h1 ho1 hc hv =>
   subst hl;exact .inr (.sle ⟨b,base,none⟩ cap (.inr ⟨rfl,hm⟩))
 rcases hcase with hc | hc
 ·exact h1.out m a w (by rw [den_env];exact hr.know hc (by simp [V.sites]))
 ·exact h2.out m a w (by rw [den_env];exact hr.know hc (by simp [V.sites]))
theorem set_same {α:Type}{l:List α}{i:Nat}{x:α}(h:l[i]?=some x):l.set i x=l:=by
 refine List.ext_getElem? fun j=>?_;rw [List.getElem?_set];split
 ·rename_i e;subst e;rw [h];have:=(List.getElem?_eq_some_iff.1 h).1;simp [this]
 ·rfl
theorem okFp_intro {a:List Oper}{b:Foot}{K:Prop}(h:okFp a b=true) (hk:K):okFp a b=true∧K:=⟨h,hk⟩
theorem keysSub {a b:List Nat}(h:(a.all fun k=>memB k b)=true):∀ k,memB k a=true→memB k b=true:=fun k hk=>List.all_eq_true.1 h k (memB_true hk)
theorem Less.of_eq {u v:V}(h:u=v):Less u v:=h ▸ .refl u
def envG (s:St) (bo:List Nat) (mp:List (Nat×Nat)):List (Nat×V)→Prop
 | []=>True
 | (t,v)::l=>(∃ u,Lent (lookH s.heap) bo (lookE s.env t) u∧u.ren (look mp)=v)∧envG s bo mp l
inductive HeapG (s:St) (bo gs:List Nat) (mp:List (Nat×Nat)):List (Nat×List Blk)→Prop
 | nil:HeapG s bo gs mp []
 | cons (k:Nat) {k':Nat}{b b1:Blk}{l:List Blk}{r:List (Nat×List Blk)}:look mp k=some k'→lookH s.heap k=[b]→BLent (lookH s.heap) bo b b1→l=[b1.ren (look mp)]→HeapG s bo gs mp r→HeapG s bo gs mp ((k',l)::r)
 | gone (k:Nat) {k':Nat}{b:Blk}{l:List Blk}{r:List (Nat×List Blk)}:look mp k=some k'→lookH s.heap k=[b]→l=[.gone]→HeapG s bo gs mp r→HeapG s bo gs mp ((k',l)::r)
 | old (k:Nat) {b:Blk}{l:List Blk}{r:List (Nat×List Blk)}:memB k gs=true→lookH s.heap k=[b]→l=[.gone]→HeapG s bo gs mp r→HeapG s bo gs mp ((k,l)::r)
 | fam (k:Nat) {k':Nat}{l:List Blk}{r:List (Nat×List Blk)}:look mp k=some k'→l=lookH s.heap k→(∀ b∈l,b.famB=true)→HeapG s bo gs mp r→HeapG s bo gs mp ((k',l)::r)
theorem envG.get {s:St}{bo:List Nat}{mp:List (Nat×Nat)}:∀ {l:List (Nat×V)},envG s bo mp l→∀ p∈l,∃ u,Lent (lookH s.heap) bo (lookE s.env p.1) u∧u.ren (look mp)=p.2
 | [],_,p,hp=>by cases hp
 | (t,v)::l,h,p,hp=>by
  rcases List.mem_cons.1 hp with e | e
  ·subst e;exact h.1
  ·exact envG.get h.2 p e
theorem HeapG.get {s:St}{bo gs:List Nat}{mp:List (Nat×Nat)}{l:List (Nat×List Blk)}(h:HeapG s bo gs mp l):∀ p∈l,(∃ k b b1,look mp k=some p.1∧lookH s.heap k=[b]∧(BLent (lookH s.heap) bo b b1∨b1=.gone)∧p.2=[b1.ren (look mp)])∨(memB p.1 gs=true∧(∃ b,lookH s.heap p.1=[b])∧p.2=[.gone])∨(∃ k,look mp k=some p.1∧p.2=lookH s.heap k∧∀ b∈p.2,b.famB=true):=by
 induction h with
 | nil=>intro p hp;cases hp
 | cons k h1 h2 h3 h4 _ ih =>
  intro p hp;rcases List.mem_cons.1 hp with e | e
  ·subst e;exact .inl ⟨k,_,_,h1,h2,.inl h3,h4⟩
  ·exact ih p e
 | gone k h1 h2 h4 _ ih =>
  intro p hp;rcases List.mem_cons.1 hp with e | e
  ·subst e;exact .inl ⟨k,_,.gone,h1,h2,.inr rfl,h4⟩
  ·exact ih p e
 | old k h1 h2 h4 _ ih =>
  intro p hp;rcases List.mem_cons.1 hp with e | e
  ·subst e;exact .inr (.inl ⟨h1,⟨_,h2⟩,h4⟩)
  ·exact ih p e
 | fam k h1 h2 h4 _ ih =>
  intro p hp;rcases List.mem_cons.1 hp with e | e
  ·subst e;exact .inr (.inr ⟨k,h1,h2,h4⟩)
  ·exact ih p e
def keepB (mp:List (Nat×Nat)) (gs K0:List Nat):Bool:=K0.all fun k=>match look mp k with | some k'=>Nat.beq k k'||memB k gs | none=>memB k gs
theorem LeG.mkG {K0:List Nat}{mp:List (Nat×Nat)}{bo gs:List Nat}{s s':St}(nd1:nodupB (mp.map (·.1))=true) (nd2:nodupB (mp.map (·.2))=true)
  (ndb:(bo.all fun k=>match look mp k with | none=>true | some k'=>match lookH s'.heap k' with | []=>true | l=>goneB l)=true) (henv:envG s bo mp s'.env) (hheap:HeapG s bo gs mp s'.heap)
  (hused:(mp.all fun p=>memB p.2 s'.used)=true) (gsd:(gs.all fun k=>match memB k (mp.map (·.2)) with | true=>false | false=>true)=true) (gused:(gs.all fun k=>memB k s'.used)=true) (hkeep:keepB mp gs K0=true):LeG K0 mp bo gs s s':=
 ⟨nd1,nd2,ndb,fun p hp=>henv.get p hp,fun p hp=>hheap.get p hp,fun p hp=>List.all_eq_true.1 hused p hp,gsd,gused,fun k hk=>by
  have h1:=List.all_eq_true.1 hkeep k hk
  split at h1
  ·rename_i k' e
   rw [Bool.or_eq_true] at h1
   rcases h1 with h1 | h1
   ·exact .inl (by rw [e,Nat.eq_of_beq_eq_true h1])
   ·exact .inr h1
  ·exact .inr h1⟩
theorem LeG.mk' {K0:List Nat}{mp:List (Nat×Nat)}{bo:List Nat}{s s':St}(nd1:nodupB (mp.map (·.1))=true) (nd2:nodupB (mp.map (·.2))=true)
  (ndb:(bo.all fun k=>match look mp k with | none=>true | some k'=>match lookH s'.heap k' with | []=>true | l=>goneB l)=true) (henv:envG s bo mp s'.env) (hheap:HeapG s bo [] mp s'.heap)
  (hused:(mp.all fun p=>memB p.2 s'.used)=true) (hsub:(s'.used.all fun k=>memB k (mp.map (·.2)))=true) (hkeep:keepB mp [] K0=true):LeG K0 mp bo [] s s':=
 LeG.mkG nd1 nd2 ndb henv hheap hused rfl rfl hkeep
theorem Lent.whole {H:Nat→List Blk}{bo:List Nat}{k l n sz:Nat}{rows:List (List V)}{ks:Option (List Nat)}(h1:memB k bo=true) (h2:H k=[.rows sz rows ks]) (h3:n=rows.length) (h4:l=n) (h5:pureRows rows ks):Lent H bo (.osl k 0 0 l n) (.sl rows false):=by
 have:=Lent.osl (H:=H) (bo:=bo) k 0 l n sz rows ks h1 h2 h3 h5;rw [List.drop_zero,List.take_of_length_le (by omega)] at this;exact this
theorem Lent.pre {H:Nat→List Blk}{bo:List Nat}{k l n sz:Nat}{rows rows':List (List V)}{ks:Option (List Nat)}(h1:memB k bo=true) (h2:H k=[.rows sz rows ks]) (h3:n=rows.length) (h4:rows.take l=rows') (h5:pureRows rows ks):Lent H bo (.osl k 0 0 l n) (.sl rows' false):=by
 have:=Lent.osl (H:=H) (bo:=bo) k 0 l n sz rows ks h1 h2 h3 h5;rw [List.drop_zero,h4] at this;exact this
end
end Go.Sx
namespace Go.Sx
open Go Go.RowKit Go.WideShapes Go.ChangeShapes
def tilesB (T:List (Nat×TI)):Nat→List (Nat×Nat)→Nat→Bool
 | off,[],tot=>Nat.beq off tot
 | off,(o,t)::fs,tot=>Nat.beq o off&&(match look T t with | some ti=>tilesB T (off+ti.sz) fs tot | none=>false)
def dataTy (T:List (Nat×TI)):Nat→Nat→Bool
 | 0,_=>false
 | n+1,t=>match look T t with
  | some ⟨.int _,_,_,_⟩=>true
  | some ⟨.bool,_,_,_⟩=>true
  | some ⟨.str,_,_,_⟩=>true
  | some ⟨.sl e,_,_,_⟩=>dataTy T n e&&(match look T e with | some ti=>Nat.blt 0 ti.sz | none=>false)
  | some ⟨.st fs,sz,_,_⟩=>tilesB T 0 fs sz&&fs.all fun f=>dataTy T n f.2
  | some ⟨.arr len e,sz,_,_⟩=>dataTy T n e&&(match look T e with | some ti=>Nat.beq sz (len*ti.sz) | none=>false)
  | _=>false
def partsL (S:Nat→List V→Prop):List (Nat×Nat)→List V→Prop
 | [],vs=>vs=[]
 | f::fs,vs=>∃ a b,vs=a++b∧S f.2 a∧partsL S fs b
def timesL (S:List V→Prop):Nat→List V→Prop
 | 0,vs=>vs=[]
 | n+1,vs=>∃ a b,vs=a++b∧S a∧timesL S n b
def shape (T:List (Nat×TI)):Nat→Nat→List V→Prop
 | 0,_,_=>False
 | n+1,t,vs=>match look T t with
  | some ⟨.int k,_,_,_⟩=>∃ z,vs=[.int k z]∧k.min≤z∧z≤k.max
  | some ⟨.bool,_,_,_⟩=>∃ b,vs=[.bool b]
  | some ⟨.str,_,_,_⟩=>∃ s:List UInt8,vs=[.str s]∧s.length≤maxLen
  | some ⟨.sl e,_,_,_⟩=>∃ rows,vs=[.sl rows false]∧rows.length≤maxLen∧∀ r∈rows,shape T n e r
  | some ⟨.st fs,_,_,_⟩=>partsL (shape T n) fs vs
  | some ⟨.arr len e,_,_,_⟩=>timesL (shape T n e) len vs
  | _=>False
structure DRel (w:World) (F:Nat→Prop) (m:MM) (vs:List V) (cs:List Value):Prop where
 len:vs.length=cs.length
 rel:∀ (j:Nat) v c,vs[j]?=some v→cs[j]?=some c→VRel w F m v c∧c.oneCell'=true
 one:∀ v∈vs,v.one=true
 pure:∀ v∈vs,v.sites=[]
theorem DRel.nil {w:World}{F:Nat→Prop}{m:MM}:DRel w F m [] []:=⟨rfl,fun j v c h=>by simp at h,by simp,by simp⟩
theorem DRel.single {w:World}{F:Nat→Prop}{m:MM}{v:V}{c:Value}(h:VRel w F m v c) (h1:v.one=true) (h2:v.sites=[]) (h3:c.oneCell'=true):DRel w F m [v] [c]:=
 ⟨rfl,fun j u d hu hd=>by
  cases j with
  | zero=>simp at hu hd;subst hu hd;exact ⟨h,h3⟩
  | succ j=>simp at hu,by simpa using h1,by simpa using h2⟩
theorem DRel.append {w:World}{F:Nat→Prop}{m:MM}{vs vs':List V}{cs cs':List Value}(h:DRel w F m vs cs) (g:DRel w F m vs' cs'):DRel w F m (vs++vs') (cs++cs'):=by
 refine ⟨by simp [h.len,g.len],fun j v c hv hc=>?_,fun v hv=>(List.mem_append.1 hv).elim (h.one v) (g.one v),fun v hv=>(List.mem_append.1 hv).elim (h.pure v) (g.pure v)⟩;rw [List.getElem?_append] at hv hc;rw [←h.len] at hc;by_cases hj:j<vs.length
 ·simp only [hj,if_true] at hv hc;exact h.rel _ _ _ hv hc
 ·simp only [hj,if_false] at hv hc;exact g.rel _ _ _ hv hc
theorem mapM_range {β:Type}{f:Nat→Option β}{n:Nat}{ys:List β}(h:(List.range n).mapM f=some ys):ys.length=n∧∀ i (hi:i<n),f i=ys[i]?:=by
 have key:∀ (l:List Nat) (ys:List β),l.mapM f=some ys→ys.length=l.length∧∀ i (hi:i<l.length),f l[i]=ys[i]?:=by
  intro l
  induction l with
  | nil=>intro ys h;simp at h;subst h;simp
  | cons a l ih =>
   intro ys h;simp only [List.mapM_cons,Option.bind_eq_bind,Option.bind_eq_some_iff] at h;obtain ⟨y,hy,ys',hys,hp⟩:=h;cases hp;obtain ⟨h1,h2⟩:=ih ys' hys;refine ⟨by simp [h1],fun i hi=>?_⟩;cases i with
   | zero=>simpa using hy
   | succ i=>simpa using h2 i (by simpa using hi)
 obtain ⟨h1,h2⟩:=key _ _ h;simp at h1;exact ⟨h1,fun i hi=>by have:=h2 i (by simpa using hi);rwa [List.getElem_range] at this⟩
theorem cells_get {w:World}{a:Addr}{n:Nat}{l:List Value}(h:w.cells? 0 a n=some l):l.length=n∧∀ j,j<n→w.cell? (a.add j)=l[j]?:=by
 simp only [World.cells?,Nat.zero_le,if_true] at h;exact mapM_range h
theorem tiles_ok {P:Program}{T:List (Nat×TI)}(hT:TableOK P T) {w:World}{F:Nat→Prop}{m:MM}{S:Nat→List V→Prop}{cs:List Value}{tot:Nat}(hcs:cs.length=tot) :
  ∀ (fs:List (Nat×Nat)) (off:Nat),tilesB T off fs tot=true→(∀ f∈fs,∃ vs,DRel w F m vs ((cs.drop f.1).take (P.cellsOf f.2))∧S f.2 vs) →
   ∃ vs,DRel w F m vs (cs.drop off)∧partsL S fs vs
 | [],off,h,_=>by
  have:off=tot:=Nat.eq_of_beq_eq_true h;refine ⟨[],?_,rfl⟩;rw [List.drop_eq_nil_of_le (by omega)];exact .nil
 | (o,t)::fs,off,h,hf=>by
  simp only [tilesB,Bool.and_eq_true] at h;obtain ⟨h1,h2⟩:=h;have h1:o=off:=Nat.eq_of_beq_eq_true h1;subst h1;cases hl:look T t with
  | none=>simp [hl] at h2
  | some ti =>
   simp only [hl] at h2;obtain ⟨d,i,z,g1,g2,g3,g4,g5,_⟩:=(hT t ti hl).ex;have hsz:P.cellsOf t=ti.sz:=by simp [Program.cellsOf,g2,g4]
   obtain ⟨a,ha,hS⟩:=hf (o,t) (by simp);obtain ⟨b,hb,hP⟩:=tiles_ok hT hcs fs (o+ti.sz) h2 fun f hf'=>hf f (List.mem_cons_of_mem _ hf');refine ⟨a++b,?_,a,b,rfl,hS,hP⟩;have:=ha.append hb;simp only [hsz] at this
   rwa [show cs.drop (o+ti.sz)=(cs.drop o).drop ti.sz by rw [List.drop_drop],List.take_append_drop] at this
theorem times_ok {w:World}{F:Nat→Prop}{m:MM}{S:List V→Prop}{cs:List Value}{sz n:Nat}(hcs:cs.length=n*sz) (hf:∀ i,i<n→∃ vs,DRel w F m vs ((cs.drop (i*sz)).take sz)∧S vs) :
  ∀ k,k≤n→∃ vs,DRel w F m vs (cs.drop ((n-k)*sz))∧timesL S k vs
 | 0,_=>by
  refine ⟨[],?_,rfl⟩;rw [List.drop_eq_nil_of_le (by simp [hcs])];exact .nil
 | k+1,hk=>by
  obtain ⟨b,hb,hP⟩:=times_ok hcs hf k (by omega);obtain ⟨a,ha,hS⟩:=hf (n-(k+1)) (by omega);refine ⟨a++b,?_,a,b,rfl,hS,hP⟩;have:=ha.append hb
  rwa [show (n-k)*sz=(n-(k+1))*sz+sz by rw [show n-k=(n-(k+1))+1 by omega,Nat.add_mul,Nat.one_mul],show cs.drop ((n-(k+1))*sz+sz)=(cs.drop ((n-(k+1))*sz)).drop sz by rw [List.drop_drop],List.take_append_drop] at this
theorem tok_sz {P:Program}{t:Nat}{ti:TI}(h:TOK P t ti):P.cellsOf t=ti.sz:=by
 obtain ⟨d,i,z,g1,g2,g3,g4,g5,_⟩:=h.ex;simp [Program.cellsOf,g2,g4]
theorem tkOf_bool {d:TypeDesc}(h:tkOf d=.bool):d=.bool:=by
 cases d<;>simp_all [tkOf]
set_option maxHeartbeats 1000000 in
theorem trod_rel {P:Program}{T:List (Nat×TI)}(hT:TableOK P T) {w:World}{F:Nat→Prop}{m:MM}(hF:∀ b,b<w.heap.size→¬ F b) {H:Type}{enc:TypeId×Value→H} :
  ∀ (n fuel t:Nat) (cs:List Value) (d:DataW H) (ps:List MemPlace),dataTy T n t=true→DataW.trod enc P w 0 (fun _=>true) true fuel t cs=some (d,ps) →
   ∃ vs,DRel w F m vs cs∧shape T n t vs
 | 0,_,_,_,_,_,h,_=>by simp [dataTy] at h
 | _+1,0,_,_,_,_,_,h=>by simp [DataW.trod] at h
 | n+1,fuel+1,t,cs,d,ps,hd,ht=>by
  cases hl:look T t with
  | none=>simp [dataTy,hl] at hd
  | some ti =>
   have hTok:=hT t ti hl;obtain ⟨td,i,z,g1,g2,g3,g4,g5,_⟩:=hTok.ex;have hsz:=tok_sz hTok;rcases ti with ⟨k,sz,bytes,zero⟩;simp only at g3 g4 hsz;cases k with
   | int k =>
    rw [tkOf_int g3] at g1;obtain ⟨x,rfl,_,hw⟩:=DataW.trod_int g1 ht;simp [Lit.wf] at hw;exact ⟨[.int k x],.single (.int _ _) rfl rfl rfl,by simp only [shape,hl];exact ⟨x,rfl,hw.1,hw.2⟩⟩
   | bool =>
    rw [tkOf_bool g3] at g1;obtain ⟨b,rfl,_⟩:=DataW.trod_bool g1 ht;exact ⟨[.bool b],.single (.bool _) rfl rfl rfl,by simp only [shape,hl];exact ⟨b,rfl⟩⟩
   | str =>
    rw [tkOf_str g3] at g1;obtain ⟨s,rfl,_,hk⟩:=DataW.trod_string g1 ht;refine ⟨[.str s.data.toList],.single ?_ rfl rfl rfl,by simp only [shape,hl];exact ⟨_,rfl,by rw [Array.length_toList];exact hk⟩⟩;have:=VRel.str (w:=w) (F:=F) (m:=m) s.data.toList (by rw [Array.length_toList];exact hk);simpa using this
   | sl e =>
    rw [tkOf_sl g3] at g1;simp only [dataTy,hl,Bool.and_eq_true] at hd;obtain ⟨hd1,hd2⟩:=hd;cases hle:look T e with
    | none=>simp [hle] at hd2
    | some te =>
     simp only [hle] at hd2;have hez:0<te.sz:=by simpa using hd2
     have hes:=tok_sz (hT e te hle);rcases DataW.trod_slice g1 ht with ⟨rfl,_⟩ | ⟨a,len,cap,elems,rest,n',hn',rfl,_,_,hlc,hcm,hel,he,hr,_⟩
     ·exact ⟨[.sl [] false],.single (.nilsl _ _) rfl rfl rfl,by simp only [shape,hl];exact ⟨[],rfl,Nat.zero_le _,by simp⟩⟩
     ·obtain rfl:fuel=n':=by omega
      obtain ⟨hrl,hr⟩:=hr rfl
      ·rcases Nat.eq_zero_or_pos cap with h0 | h0
       ·subst h0;obtain rfl:len=0:=by omega
        exact ⟨[.sl [] false],.single (.nilsl _ _) rfl rfl rfl,by simp only [shape,hl];exact ⟨[],rfl,Nat.zero_le _,by simp⟩⟩
       ·have hall:∀ i,i<cap→∃ l x,w.cells? 0 (a.add (i*P.cellsOf e)) (P.cellsOf e)=some l∧DataW.trod enc P w 0 (fun _=>true) true fuel e l=some x:=by
         intro i hi;by_cases hil:i<len
         ·have hy:=he i hil;rw [List.getElem?_eq_getElem (by omega)] at hy;simp only [Option.bind_eq_some_iff] at hy;obtain ⟨l,h1,h2⟩:=hy;exact ⟨l,_,h1,h2⟩
         ·have hy:=hr (i-len) (by omega);rw [List.getElem?_eq_getElem (by omega)] at hy;simp only [Option.bind_eq_some_iff,show len+(i-len)=i by omega] at hy;obtain ⟨l,h1,h2⟩:=hy;exact ⟨l,_,h1,h2⟩
        rw [hes] at hall;obtain ⟨b,o,spot⟩:=a;have hcell0:∃ c,w.cell? ((⟨b,o,spot⟩:Addr).add (0*te.sz) |>.add 0)=some c:=by
         obtain ⟨l,x,h1,h2⟩:=hall 0 h0;obtain ⟨h3,h4⟩:=cells_get h1;have:=h4 0 hez;rw [List.getElem?_eq_getElem (by omega)] at this;exact ⟨_,this⟩
        have hspot:spot=none:=by
         obtain ⟨c,hc⟩:=hcell0;simpa [Addr.add] using World.cell?_spot hc
        subst hspot;have hb:b<w.heap.size:=by
         obtain ⟨c,hc⟩:=hcell0;rcases Nat.lt_or_ge b w.heap.size with hb | hb
         ·exact hb
         ·simp [World.cell?,Addr.add,Array.getElem?_eq_none hb] at hc
        have hrow:∀ i:Nat,∃ (vs:List V) (l:List Value),i<cap→(w.cells? 0 ⟨b,o+i*te.sz,none⟩ te.sz=some l∧DRel w F m vs l∧shape T n e vs):=by
         intro i;by_cases hi:i<cap
         ·obtain ⟨l,x,h1,h2⟩:=hall i hi;obtain ⟨vs,h3,h4⟩:=trod_rel hT (m:=m) hF n fuel e l x.1 x.2 hd1 h2;exact ⟨vs,l,fun _=>⟨by rw [add_lit] at h1;exact h1,h3,h4⟩⟩
         ·exact ⟨[],[],fun h=>absurd h hi⟩
        have hrow2:=fun i=>Classical.choose_spec (hrow i);generalize hR:(fun i=>Classical.choose (hrow i))=R at *;have hrow3:∀ i,i<cap→∃ l,w.cells? 0 ⟨b,o+i*te.sz,none⟩ te.sz=some l∧DRel w F m (R i) l∧shape T n e (R i):=by
         intro i hi;obtain ⟨l,hl2⟩:=hrow2 i;rw [←hR];exact ⟨l,hl2 hi⟩
        have hget:∀ (i:Nat) r,((List.range len).map R)[i]?=some r→i<len∧r=R i:=by
         intro i r hi;rw [List.getElem?_map] at hi;by_cases hil:i<len
         ·rw [List.getElem?_range hil] at hi;simp at hi;exact ⟨hil,hi.symm⟩
         ·rw [List.getElem?_eq_none (by simp;omega)] at hi;simp at hi
        have hlen:((List.range len).map R).length=len:=by simp
        refine ⟨[.sl ((List.range len).map R) false],.single ?_ rfl rfl rfl,by
         simp only [shape,hl]
         refine ⟨_,rfl,by rw [hlen];omega,fun r hr=>?_⟩
         obtain ⟨i,hi,rfl⟩:=List.mem_map.1 hr
         obtain ⟨l,_,_,h3⟩:=hrow3 i (by have:=List.mem_range.1 hi;omega)
         exact h3⟩
        have hcellR:∀ i j v,i<len→(R i)[j]?=some v→∃ c,w.cell? ⟨b,o+i*te.sz+j,none⟩=some c∧VRel w F m v c∧c.oneCell'=true:=by
         intro i j v hi hj;obtain ⟨l,h1,h2,_⟩:=hrow3 i (by omega);obtain ⟨h3,h4⟩:=cells_get h1;have hjl:j<l.length:=by rw [←h2.len];exact (List.getElem?_eq_some_iff.1 hj).1
         have h5:=h4 j (by omega);rw [List.getElem?_eq_getElem hjl,add_lit] at h5;obtain ⟨h6,h7⟩:=h2.rel j v _ hj (List.getElem?_eq_getElem hjl);exact ⟨_,h5,h6,h7⟩
        have:=VRel.sl (w:=w) (F:=F) (m:=m) ((List.range len).map R) false te.sz b o cap (fun i j=>(w.cell? ⟨b,o+i*te.sz+j,none⟩).getD (.bool true)) (fun _=>⟨hF b hb,hb⟩)
         (by rw [hlen];exact hlc) hcm (fun h=>by cases h) (fun i r hi=>by
          obtain ⟨h1,rfl⟩:=hget i r hi
          obtain ⟨l,h2,h3,_⟩:=hrow3 i (by omega)
          rw [h3.len,(cells_get h2).1]) (fun i r j v hi hj=>by
          obtain ⟨h1,rfl⟩:=hget i r hi
          obtain ⟨l,h2,h3,_⟩:=hrow3 i (by omega)
          exact h3.pure v (List.mem_of_getElem? hj)) (fun i r j v hi hj=>by
          obtain ⟨h1,rfl⟩:=hget i r hi
          obtain ⟨l,h2,h3,_⟩:=hrow3 i (by omega)
          exact h3.one v (List.mem_of_getElem? hj)) (fun i r j v hi hj=>by
          obtain ⟨h1,rfl⟩:=hget i r hi
          obtain ⟨c,h2,h3,h4⟩:=hcellR i j v h1 hj
          simp only [h2,Option.getD_some];exact h4) (fun i r j v hi hj=>by
          obtain ⟨h1,rfl⟩:=hget i r hi
          obtain ⟨c,h2,h3,h4⟩:=hcellR i j v h1 hj
          simp only [h2,Option.getD_some]) (fun i r j v hi hj=>by
          obtain ⟨h1,rfl⟩:=hget i r hi
          obtain ⟨c,h2,h3,h4⟩:=hcellR i j v h1 hj
          simp only [h2,Option.getD_some];exact h3)
        rw [hlen] at this;exact this
   | arr len e =>
    rw [tkOf_arr g3] at g1;simp only [dataTy,hl,Bool.and_eq_true] at hd;obtain ⟨hd1,hd2⟩:=hd;cases hle:look T e with
    | none=>simp [hle] at hd2
    | some te =>
     simp only [hle] at hd2;have hez:sz=len*te.sz:=Nat.eq_of_beq_eq_true hd2;have hes:=tok_sz (hT e te hle);obtain ⟨xs,n',hn',_,hk,hxl,hx⟩:=DataW.trod_array g1 ht;obtain rfl:fuel=n':=by omega
     rw [hsz] at hk;obtain ⟨vs,h1,h2⟩:=times_ok (w:=w) (F:=F) (m:=m) (S:=shape T n e) (cs:=cs) (sz:=te.sz) (n:=len) (by omega) (fun i hi=>by
       have hy:=hx i hi
       rw [hes,List.getElem?_eq_getElem (by omega)] at hy
       exact trod_rel hT hF n fuel e _ _ _ hd1 hy) len (Nat.le_refl _)
     refine ⟨vs,by simpa using h1,by simp only [shape,hl];exact h2⟩
   | st fs =>
    obtain ⟨fields,rfl,hfs⟩:=tkOf_st g3;simp only [dataTy,hl,Bool.and_eq_true] at hd;obtain ⟨hd1,hd2⟩:=hd;obtain ⟨xs,n',hn',_,hk,hxl,hx⟩:=DataW.trod_struct g1 ht;obtain rfl:fuel=n':=by omega
    rw [hsz] at hk;obtain ⟨vs,h1,h2⟩:=tiles_ok hT (w:=w) (F:=F) (m:=m) (S:=shape T n) hk fs 0 hd1 (fun f hf=>by
      have hdf:=List.all_eq_true.1 hd2 f hf
      rw [hfs] at hf
      obtain ⟨fl,hfl,rfl⟩:=List.mem_map.1 hf
      obtain ⟨i,hi,rfl⟩:=List.getElem_of_mem hfl
      have hi2:i<fields.size:=by simpa using hi
      have hy:=hx i fields[i] (Array.getElem?_eq_getElem hi2)
      rw [List.getElem?_eq_getElem (by omega)] at hy
      exact trod_rel hT hF n fuel _ _ xs[i].1 xs[i].2 hdf (by simpa using hy))
    refine ⟨vs,by simpa using h1,by simp only [shape,hl];exact h2⟩
   | ptr e=>simp [dataTy,hl] at hd
   | map k e=>simp [dataTy,hl] at hd
   | fn=>simp [dataTy,hl] at hd
   | iface=>simp [dataTy,hl] at hd
   | other=>simp [dataTy,hl] at hd
def argShape (T:List (Nat×TI)) (n t:Nat) (u:V):Prop:=
 match look T t with
 | some ⟨.st _,_,_,_⟩=>∃ vs,u=.agg vs∧shape T n t vs
 | some ⟨.arr _ _,_,_,_⟩=>∃ vs,u=.agg vs∧shape T n t vs
 | _=>shape T n t [u]
theorem okWide_arr {P:Program}{w:World}{r:Reach}{base t n e:Nat}{v:Value}(ht:P.underlying t=some (.array n e)) (h:Value.okWide P w r base t v):∃ cs,v=.agg cs∧cs.size=P.cellsOf t:=by
 simp only [Value.okWide,ht] at h;obtain ⟨cs,h1,h2,_⟩:=h;exact ⟨cs,h1,h2⟩
theorem arg_rel {P:Program}{T:List (Nat×TI)}(hT:TableOK P T) {w:World}{H:Type}{enc:TypeId×Value→H}{n t:Nat}{base:Nat}{v:Value}{d:DataW H}{ps:List MemPlace}(hd:dataTy T n t=true)
  (hval:Value.okWide P w .any base t v) (h:DataW.Trod enc P w 0 (fun _=>true) true t v d ps):∃ u,VRel w (fun _=>False) (fun _ _=>none) u v∧u.sites=[]∧argShape T n t u:=by
 obtain ⟨fuel,hf⟩:=h;obtain ⟨vs,h1,h2⟩:=trod_rel hT (F:=fun _=>False) (m:=fun _ _=>none) (fun _ _ h=>h) n fuel t _ d ps hd hf;have one:(∃ k,v.cells=#[v]∧look T t=some k∧k.k.agg=false)→∃ u,VRel w (fun _=>False) (fun _ _=>none) u v∧u.sites=[]∧argShape T n t u:=by
  rintro ⟨k,hc,hk,hka⟩;rw [hc] at h1;have hl:=h1.len
  match vs,h1,h2,hl with
  | [u],h1,h2,_ =>
   refine ⟨u,(h1.rel 0 u v rfl rfl).1,h1.pure u (by simp),?_⟩;rcases k with ⟨k,sz,by_,z⟩;simp only [argShape,hk];cases k<;>simp_all [TK.agg]
 have agg:(∃ cs k,v=.agg cs∧look T t=some k∧k.k.agg=true)→∃ u,VRel w (fun _=>False) (fun _ _=>none) u v∧u.sites=[]∧argShape T n t u:=by
  rintro ⟨cs,k,rfl,hk,hka⟩;refine ⟨.agg vs,?_,?_,?_⟩
  ·have:=VRel.agg (w:=w) (F:=fun _=>False) (m:=fun _ _=>none) vs cs.toList h1.len (fun x hx=>by
    obtain ⟨j,hj,rfl⟩:=List.getElem_of_mem hx
    have hj2:j<vs.length:=by rw [h1.len];exact hj
    exact (h1.rel j vs[j] _ (List.getElem?_eq_getElem hj2) (List.getElem?_eq_getElem hj)).2) (fun j u hu=>h1.one u (List.mem_of_getElem? hu)) (fun j u x hu hx=>(h1.rel j u x hu hx).1)
   simpa using this
  ·simp only [V.sites,sitesL_eq];simp only [List.flatMap_eq_nil_iff];exact h1.pure
  ·rcases k with ⟨k,sz,by_,z⟩;simp only [argShape,hk];cases k<;>simp_all [TK.agg]
 cases hl:look T t with
 | none=>cases n<;>simp [dataTy,hl] at hd
 | some ti =>
  obtain ⟨td,i,z,g1,g2,g3,g4,g5,_⟩:=(hT t ti hl).ex;cases n with
  | zero=>simp [dataTy] at hd
  | succ n =>
  rcases ti with ⟨k,sz,bytes,zero⟩;simp only at g3;cases k with
  | int k=>obtain ⟨x,rfl⟩:=okWide_int (by rw [tkOf_int g3] at g1;exact g1) hval;exact one ⟨_,rfl,hl,rfl⟩
  | bool=>obtain ⟨x,rfl⟩:=okWide_bool (by rw [tkOf_bool g3] at g1;exact g1) hval;exact one ⟨_,rfl,hl,rfl⟩
  | str=>obtain ⟨x,rfl⟩:=okWide_string (by rw [tkOf_str g3] at g1;exact g1) hval;exact one ⟨_,rfl,hl,rfl⟩
  | sl e=>obtain ⟨a,l,c,rfl⟩:=okWide_slice (by rw [tkOf_sl g3] at g1;exact g1) hval;exact one ⟨_,rfl,hl,rfl⟩
  | st fs =>
   obtain ⟨fields,rfl,hfs⟩:=tkOf_st g3;obtain ⟨cs,rfl,_⟩:=okWide_struct g1 hval;exact agg ⟨cs,_,rfl,hl,rfl⟩
  | arr a e =>
   rw [tkOf_arr g3] at g1;obtain ⟨cs,rfl,_⟩:=okWide_arr g1 hval;exact agg ⟨cs,_,rfl,hl,rfl⟩
  | ptr e=>simp [dataTy,hl] at hd
  | map k e=>simp [dataTy,hl] at hd
  | fn=>simp [dataTy,hl] at hd
  | iface=>simp [dataTy,hl] at hd
  | other=>simp [dataTy,hl] at hd
section
variable {T:List (Nat×TI)}{n t:Nat}{vs:List V}{sz by_:Nat}{z:List V}
theorem shape_int {k:IntKind}(h:look T t=some ⟨.int k,sz,by_,z⟩) (hs:shape T (n+1) t vs):∃ x,vs=[.int k x]∧k.min≤x∧x≤k.max:=by simpa only [shape,h] using hs
theorem shape_sl {e:Nat}(h:look T t=some ⟨.sl e,sz,by_,z⟩) (hs:shape T (n+1) t vs):∃ rows,vs=[.sl rows false]∧rows.length≤maxLen∧∀ r∈rows,shape T n e r:=by simpa only [shape,h] using hs
theorem argShape_one {u:V}{k:TK}(h:look T t=some ⟨k,sz,by_,z⟩) (hk:k.agg=false) (hs:argShape T n t u):shape T n t [u]:=by
 simp only [argShape,h] at hs;cases k<;>first | exact hs | (simp [TK.agg] at hk;done)
theorem rows_map {α:Type}{f:α→List V}{p:α→Prop}:∀ {rows:List (List V)},(∀ r∈rows,∃ x,r=f x∧p x)→∃ l:List α,rows=l.map f∧∀ x∈l,p x
 | [],_=>⟨[],rfl,by simp⟩
 | r::rows,h=>by
  obtain ⟨x,rfl,hx⟩:=h r (by simp);obtain ⟨l,rfl,hl⟩:=rows_map (rows:=rows) fun q hq=>h q (List.mem_cons_of_mem _ hq);exact ⟨x::l,rfl,fun y hy=>(List.mem_cons.1 hy).elim (fun e=>e ▸ hx) (hl y)⟩
end
end Go.Sx
namespace Go.Sx
open Go Go.RowKit
theorem Spec.ofCalls [Glob] {P:Program}{f:Nat}{args:List V}{v:V}(he:∀ (cargs:Array Value) (w:World),(callFunc f cargs).run P w=.ok (.enter f cargs) w)
  (hv:∀ (w:World) (F:Nat→Prop) (m:MM) (cargs:List Value),cargs.length=args.length→(∀ (j:Nat) u c,args[j]?=some u→cargs[j]?=some c→VRel w F m u c)→Glob.ok w →
   Calls P f cargs.toArray w fun e w'=>∃ cv,e=.returned cv∧(∀ (w':World) (F:Nat→Prop) (m:MM),VRel w' F m v cv)∧Below w.heap.size w w'∧(Glob.quiet→w.drawn≤w'.drawn)):Spec P f args [] v []:=by
 refine ⟨he,fun Fr m w cargs hl hF hH ha hs=>?_⟩;have hm:∀ k i,m k i=none:=fun k i=>by
  cases hq:m k i with
  | none=>rfl
  | some x =>
   have:=(hH.dom k i).1 (by rw [hq];rfl);simp [heapL,lookH,look] at this
 have hOwn:∀ b,¬ Own m b:=fun b ⟨k,i,x,hx,_⟩=>(by rw [hm] at hx;cases hx)
 refine (hv w _ _ cargs hl ha hH.glob.1).mono fun e w' ⟨cv,h1,h2,hb,hdr⟩=>?_;obtain ⟨b1,b2,b3,b4,b5⟩:=hb;have hsame:∀ b,b<w.heap.size→w'.heap[b]?=w.heap[b]?:=b5;refine ⟨cv,m,h1,h2 _ _ _,⟨hH.dom,fun k i blk hb=>(by simp [heapL,lookH,look] at hb),fun k i x k' i' x' hx=>(by rw [hm] at hx;cases hx),fun k i x hx=>(by rw [hm] at hx;cases hx),by simp,hH.glob.tr (fun b hb hn=>⟨hsame b hb,hn⟩) b4⟩,
  fun k i x hx=>(by rw [hm] at hx;cases hx),fun k hk i x hx=>(by rw [hm] at hx;cases hx),⟨b1,⟨b2,hdr⟩,b3,b4,fun b hb _=>hsame b hb,fun b e n hb=>?_⟩⟩
 rw [shape?_of_heap (hsame b (shape_lt hb))];exact hb
end Go.Sx
namespace Go.Sx
open Go
theorem MM.at_self {m:MM}{k i:Nat}{x:MB}(hx:m k i=some x):MM.at m k i x=m:=by
 funext j l;unfold MM.at
 split
 ·rename_i h;obtain ⟨rfl,rfl⟩:=h;exact hx.symm
 ·rfl
theorem isNilV_rel {w:World}{F:Nat→Prop}{m:MM}{v:V}{c:Value}(hv:VRel w F m v c) (ht:isNilV v=true):∃ ad,c=.slice ad 0 0:=by
 cases hv with
 | nils=>exact ⟨none,rfl⟩
 | nilsl full ad=>exact ⟨ad,rfl⟩
 | sl rows full sz b base cap c hF hl hm hf hz hdd h1 ho1 hc hv =>
  cases rows with
  | nil =>
   cases full with
   | true=>have:=hf rfl;exact ⟨_,by rw [this];rfl⟩
   | false=>cases ht
  | cons _ _=>cases ht
 | _=>cases ht
variable {P:Program}{T:List (Nat×TI)}{Γ:Ctx}{Q:Exit→St→Prop}{st:St}
theorem W.ownCell [Glob] {c:Code}(k r o d sz:Nat) {szk:Nat}{rows:List (List V)}{row:List V}{v:V}(hk:lookH st.heap k=[.rows szk rows none]) (hr:rows[r]?=some row) (ho:row[o]?=some v) (ht:isNilV v=true) (hd:memB d st.used=false)
  (h:W P T Γ c Q ⟨st.env,(k,[.rows szk (rows.set r (row.set o (.osl d 0 0 0 0))) none])::(d,[.rows sz [] (some [])])::st.heap,d::st.used⟩):W P T Γ c Q st:=by
 refine ⟨fun m a w hrel=>?_⟩;have hd':st.den.used d=false:=hd;obtain ⟨h1,h2⟩:=Rel.freshNil hrel hd' (sz:=sz) (ks:=some []) (fun k hk=>by cases hk);have hku:memB k st.used=true:=hrel.useH k (by simp only [St.den];rw [hk];simp);have hkd:k≠d:=fun e=>by rw [e,hd] at hku;cases hku
 have hbl:((st.den.fresh d (.rows sz [] (some []))).heap k)[0]?=some (.rows szk rows none):=by simp [ASt.fresh,hkd,St.den,hk]
 obtain ⟨x,hx,hB⟩:=h1.heap k 0 _ hbl;have hB:RowsOK w (Forb Γ (MM.fresh m d ⟨0,0,sz,0,true⟩)) (MM.fresh m d ⟨0,0,sz,0,true⟩) x szk rows none:=hB;have hrl:r<rows.length:=(List.getElem?_eq_some_iff.1 hr).1;have hol:o<row.length:=(List.getElem?_eq_some_iff.1 ho).1;have hget:∀ (i:Nat) q,(rows.set r (row.set o (.osl d 0 0 0 0)))[i]?=some q→(i=r∧q=row.set o (.osl d 0 0 0 0))∨(i≠r∧rows[i]?=some q):=by
  intro i q hq;rw [List.getElem?_set] at hq;by_cases hi:r=i
  ·subst hi;simp [hrl] at hq;exact .inl ⟨rfl,hq.symm⟩
  ·simp [hi] at hq;exact .inr ⟨fun e=>hi e.symm,hq⟩
 have hcase:∀ (i:Nat) q (j:Nat) u,(rows.set r (row.set o (.osl d 0 0 0 0)))[i]?=some q→q[j]?=some u→(i=r∧j=o∧u=.osl d 0 0 0 0)∨∃ q',rows[i]?=some q'∧q'[j]?=some u:=by
  intro i q j u hi hj;rcases hget i q hi with ⟨rfl,rfl⟩ | ⟨_,hi⟩
  ·rw [List.getElem?_set] at hj;by_cases hjo:o=j
   ·subst hjo;simp [hol] at hj;exact .inl ⟨rfl,rfl,hj.symm⟩
   ·simp [hjo] at hj;exact .inr ⟨row,hr,hj⟩
  ·exact .inr ⟨q,hi,hj⟩
 have hB2:RowsOK w (Forb Γ (MM.fresh m d ⟨0,0,sz,0,true⟩)) (MM.fresh m d ⟨0,0,sz,0,true⟩) x szk (rows.set r (row.set o (.osl d 0 0 0 0))) none:=by
  refine ⟨hB.hsz,by rw [List.length_set];exact hB.hn,fun i q hq=>?_,fun hn=>?_,fun hn=>?_,fun i q j u hi hj=>?_⟩
  ·rcases hget i q hq with ⟨rfl,rfl⟩ | ⟨_,hq⟩
   ·rw [List.length_set];exact hB.len _ _ hr
   ·exact hB.len _ _ hq
  ·have:=hB.nil hn;rw [this] at hrl;simp at hrl
  ·rw [List.length_set];exact hB.blk hn
  ·rcases hcase i q j u hi hj with ⟨rfl,rfl,rfl⟩ | ⟨q',h3,h4⟩
   ·obtain ⟨_,_,c0,g1,g2,g3⟩:=hB.cell _ _ _ _ hr ho;obtain ⟨ad,rfl⟩:=isNilV_rel g3 ht;exact ⟨rfl,fun l hl=>(by cases hl),_,g1,g2,h2 ad⟩
   ·exact hB.cell i q' j u h3 h4
 have h3:=h1.at k 0 hbl hx x (.rows szk (rows.set r (row.set o (.osl d 0 0 0 0))) none) (.inl rfl) (w':=w) (fun _ _ _=>rfl) (Nat.le_refl _) (fun _ _ _ h=>h) rfl ⟨rfl,fun _=>Nat.le_refl _⟩ rfl (fun hn=>.inl ⟨hn,rfl⟩) (fun i q j u hi hj q' hq'=>by
  rcases hcase i q j u hi hj with ⟨rfl,rfl,rfl⟩ | ⟨q'',h3,h4⟩
  ·simp [V.sites] at hq';subst hq';simp [ASt.fresh]
  ·exact h1.useB k 0 _ hbl i q'' j u h3 h4 q' hq') (by rw [MM.at_self hx];exact hB2)
 refine h.out (MM.at (MM.fresh m d ⟨0,0,sz,0,true⟩) k 0 x) a w ?_;have e:St.den ⟨st.env,(k,[.rows szk (rows.set r (row.set o (.osl d 0 0 0 0))) none])::(d,[.rows sz [] (some [])])::st.heap,d::st.used⟩=(st.den.fresh d (.rows sz [] (some []))).at k 0 (.rows szk (rows.set r (row.set o (.osl d 0 0 0 0))) none):=by
  have h4:=St.den_ups [.fresh d (.rows sz [] (some [])),.upd k 0 (.rows szk (rows.set r (row.set o (.osl d 0 0 0 0))) none)] st;simp only [St.ups,ASt.ups,List.foldl_cons,List.foldl_nil,ASt.up] at h4;rw [←h4];congr 2;simp only [lookH,look_cons,hkd,if_false];have:look st.heap k=some [.rows szk rows none]:=by
   unfold lookH at hk;cases hq:look st.heap k with
   | none=>rw [hq] at hk;cases hk
   | some b=>rw [hq] at hk;simp only at hk;rw [hk]
  rw [this];rfl
 rw [e];exact h3
end Go.Sx
namespace Go.Sx
open Go
section
variable {P:Program}{T:List (Nat×TI)}{Γ:Ctx}{Q:Exit→St→Prop}{st:St}
theorem gA [Glob] {x y:Code}(h:W P T Γ x (thenQ (fun s=>W P T Γ y Q s) Q) st):W P T Γ (.seq x y) Q st:=W.seq h
theorem gB [Glob] {id:Nat}{c:Code}(h:W P T Γ c (blockQ id Q) st):W P T Γ (.block id c) Q st:=W.block h
theorem gC [Glob] {c:Operand}{x y:Code}(hc:evalO (lookE st.env) c=.bool true) (h:W P T Γ x Q st):W P T Γ (.cond c x y) Q st:=W.condT hc h
theorem gD [Glob] {c:Operand}{x y:Code}(hc:evalO (lookE st.env) c=.bool false) (h:W P T Γ y Q st):W P T Γ (.cond c x y) Q st:=W.condF hc h
theorem gE [Glob] (hE:Env P T) {N:NB}(hN:Γ.N=N) {id:Nat}{ops:Array Oper}{draw:Bool}(hok:regionOK N ops.toList=true) (h:ev P N T ops.toList draw ops.toList 0 st.env st.heap st.used [] (fun s=>Q .normal s)):W P T Γ (.region id ops draw) Q st:=W.reg hE hN hok h
theorem gF [Glob] (h:Q .normal st):W P T Γ .skip Q st:=W.skip h
theorem gG [Glob] {id:Nat}(h:Q (.exit id) st):W P T Γ (.exit id) Q st:=W.exit h
theorem gM [Glob] (h:Q .ret st):W P T Γ .ret Q st:=W.ret h
end
theorem gH {a b:Nat}{q:Prop}(h:a≤b→q):a≤b→q:=h
theorem gN {a b:Prop}(h:a) (k:b):a∧b:=⟨h,k⟩
theorem gO {a b:Prop}(h:b):a∨b:=.inr h
theorem gI {ops:List Oper}{fp:Foot}{X:Prop}(h:okFp ops fp=true) (hx:X):okFp ops fp=true∧X:=⟨h,hx⟩
theorem gJ {rows:List (List V)}{n:Nat}{K:List V→Prop}{r:List V}(h:rows[n]?=some r) (hk:K r):rowAt rows n K:=rowAt_of h hk
theorem gK {p:Prop}{K:Kont}(h:p) (h1:K (.bool true) [] []):boolRes p K:=boolRes_true h h1
theorem gL {p:Prop}{K:Kont}(h:¬ p) (h1:K (.bool false) [] []):boolRes p K:=boolRes_false h h1
end Go.Sx
namespace Go.Sx
open Go
theorem RowF.same {H:Nat→List Blk}{bo:List Nat}:∀ {r:List V},(∀ v∈r,v.one=true)→RowF H bo r r
 | [],_=>trivial
 | v::r,h=>⟨⟨.refl _,h v (by simp)⟩,RowF.same fun u hu=>h u (List.mem_cons_of_mem _ hu)⟩
theorem RowsF.same {H:Nat→List Blk}{bo:List Nat}:∀ {rs:List (List V)},(∀ r∈rs,∀ v∈r,v.one=true)→RowsF H bo rs rs
 | [],_=>trivial
 | r::rs,h=>⟨RowF.same (h r (by simp)),RowsF.same fun u hu=>h u (List.mem_cons_of_mem _ hu)⟩
theorem Lent.row {H:Nat→List Blk}{bo:List Nat}{us vs:List V}(h:RowF H bo us vs):Lent H bo (.agg us) (.agg vs):=by
 obtain ⟨h1,h2⟩:=h.get;refine .agg us vs h1 (fun j u v hu hv=>?_) fun v hv=>?_
 ·obtain ⟨u',hu',h3,_⟩:=h2 j v hv;rw [hu] at hu';cases hu';exact h3
 ·obtain ⟨j,hj⟩:=List.mem_iff_getElem?.1 hv;exact (h2 j v hj).choose_spec.2.2
section
variable {P:Program}{T:List (Nat×TI)}{Γ:Ctx}{Q:Exit→St→Prop}{st:St}
def Ref [Glob] (Γ:Ctx) (s s':St):Prop:=∀ m a w,Rel Γ m s.den a w→∃ m',Rel Γ m' s'.den a w
theorem Ref.trans [Glob] {Γ:Ctx}{s s' s'':St}(h:Ref Γ s s') (g:Ref Γ s' s''):Ref Γ s s'':=fun m a w hr=>let ⟨m',h1⟩:=h m a w hr;g m' a w h1
theorem Ref.le [Glob] {Γ:Ctx}{s s':St}{mp:List (Nat×Nat)}{bo gs:List Nat}(h:LeG Γ.K0 mp bo gs s s'):Ref Γ s s':=fun m a w hr=>hr.leG h
theorem W.ref [Glob] {c:Code}{st':St}(hl:Ref Γ st st') (h:W P T Γ c Q st'):W P T Γ c Q st:=⟨fun m a w hr=>let ⟨m',hr'⟩:=hl m a w hr;h.out m' a w hr'⟩
theorem Ref.unks [Glob] (k:Nat) {sz:Nat}{rows:List (List V)}{l:List Nat}(hk:lookH st.heap k=[.rows sz rows (some l)]):Ref Γ st ⟨st.env,(k,[.rows sz rows none])::st.heap,st.used⟩:=by
 intro m a w hrel;have hbl:(st.den.heap k)[0]?=some (.rows sz rows (some l)):=by simp [St.den,hk]
 obtain ⟨x,hx,hB⟩:=hrel.heap k 0 _ hbl;have hB:RowsOK w (Forb Γ m) m x sz rows (some l):=hB;have hwi:=hrel.useB k 0 _ hbl;have hB2:RowsOK w (Forb Γ m) m x sz rows none:=⟨hB.hsz,hB.hn,hB.len,hB.nil,hB.blk,fun i r j v hi hj=>by
  obtain ⟨g1,g2,g3⟩:=hB.cell i r j v hi hj
  exact ⟨g1,fun l hl=>(by cases hl),g3⟩⟩
 have h3:=hrel.at k 0 hbl hx x (.rows sz rows none) (.inl rfl) (w':=w) (fun _ _ _=>rfl) (Nat.le_refl _) (fun _ _ _ h=>h) rfl ⟨rfl,fun _=>Nat.le_refl _⟩ rfl (fun hn=>.inl ⟨hn,rfl⟩) (fun i r j v hi hj q hq=>by
  obtain ⟨_,g2,_⟩:=hB.cell i r j v hi hj
  exact hwi q (g2 l rfl q hq)) (by rw [MM.at_self hx];exact hB2)
 refine ⟨MM.at m k 0 x,?_⟩;have e:St.den ⟨st.env,(k,[.rows sz rows none])::st.heap,st.used⟩=st.den.at k 0 (.rows sz rows none):=by
  have h4:=St.den_ups [.upd k 0 (.rows sz rows none)] st;simp only [St.ups,ASt.ups,List.foldl_cons,List.foldl_nil,ASt.up] at h4;rw [←h4,hk];rfl
 rw [e];exact h3
theorem W.cut [Glob] {c rest:Code}(J:St→Prop) (h1:W P T Γ c (thenQ (fun s=>∃ s',J s'∧Ref Γ s s') Q) st) (h2:∀ s',J s'→W P T Γ rest Q s'):W P T Γ (.seq c rest) Q st:=by
 refine W.seq (h1.mono fun e s hs=>?_);cases e with
 | normal =>
  obtain ⟨s',hJ,hl⟩:=hs;exact W.ref hl (h2 s' hJ)
 | _=>exact hs
theorem W.loopR [Glob] {c:Code}(I:Nat→St→Prop) (n₀:Nat) (s₀:St) (h₀:I n₀ s₀) (hl:Ref Γ st s₀)
    (round:∀ n s,I n s→W P T Γ c (thenQ (fun s1=>∃ n' s2,n' < n∧I n' s2∧Ref Γ s1 s2) Q) s):W P T Γ (.loop c) Q st:=by
  refine ⟨fun m a w hr=>?_⟩;obtain ⟨m0,hr0⟩:=hl m a w hr;refine wp_loop_ghost (fun n a w=>∃ s m,I n s∧Rel Γ m s.den a w) (n₀:=n₀) ⟨s₀,m0,h₀,hr0⟩ fun n a w ⟨s,m,hs,hr⟩=>?_;refine wp_mono ((round _ s hs).out m a w hr) fun e a' w' ⟨s',m',h1,h2⟩=>?_;cases e<;>first
    | (obtain ⟨n', s2, hn, hI2, hle⟩ := h1
       obtain ⟨m2, hr2⟩ := hle m' a' w' h2
       exact ⟨n',hn,s2,m2,hI2,hr2⟩)
    | exact ⟨s',m',h1,h2⟩
end
end Go.Sx
namespace Go.Sx
open Go
section
variable {P:Program}{T:List (Nat×TI)}{Γ:Ctx}{Q:Exit→St→Prop}{st:St}
theorem wpOps_rest [Glob] (hE:Env P T) {N:NB}(hN:Γ.N=N) {o:Oper}{rest:List Oper}(hok:regionOK N (o::rest)=true) {st1:St}{K:St→Prop}{fp:Foot}
  (h:ev P N T (o::rest) false rest 1 st1.env st1.heap st1.used fp K) {m:MM}{a:Act}{w:World}(hr:Rel Γ m st1.den a w) :
  wpOps P (o::rest).toArray (fun e a' w'=>e=.normal∧∃ st' m',K st'∧Rel Γ m' st'.den a' w') (List.range' 1 rest.length) a w:=by
 subst hN;rw [ev_eq] at h;obtain ⟨k1,k2,k3⟩:=regionOK_spec hok;obtain ⟨st',evs,fp',⟨l1,l2,l3,l4,l5⟩,hK,hF⟩:=lex_ok hE.table (Γ:=Γ) rfl k1 rest 1 st1 fp m a w (fun j=>by rw [Nat.add_comm];rfl) hr h
 let F:Nat→Ev:=fun j=>match j with | 0=>⟨false,fun _=>.dead,fun _=>[],.dead,[],[]⟩ | j+1=>(evs[j]?).getD ⟨false,fun _=>.dead,fun _=>[],.dead,[],[]⟩
 obtain ⟨g1,g2⟩:=hF F (fun j ev hj=>by rw [Nat.add_comm];simp [F,hj]);have hd:∀ (i:Nat) o',(o::rest).toArray[i]?=some o'→dstOK Γ.N o'.dst=true:=fun i o' ho=>k1 o' (by
  have:=Array.mem_of_getElem? ho
  simpa using this)
 have hgood:∀ (i:Nat) o',(o::rest).toArray[i]?=some o'→(F i).run=true→GoodW P Γ.N o' (F i).ρ (F i).h (F i).v (F i).us (F i).rd:=fun i o' ho hrun=>by
  cases i with
  | zero=>cases hrun
  | succ i =>
   have hev:evs[i]?=some (F (i+1)):=by
    simp only [F] at hrun ⊢;cases he:evs[i]? with
    | none=>rw [he] at hrun;cases hrun
    | some ev=>simp
   exact l2 i o' _ (by simpa using ho) hev hrun
 exact inorder rfl hd hgood _ st1.den m a w g1 hr fun m a w hr'=>⟨rfl,st',m,hK,by rw [g2] at hr';exact hr'⟩
theorem W.nextMap [Glob] (hE:Env P T) {N:NB}(hN:Γ.N=N) {id:Nat}{o:Oper}{rest:List Oper}{it:Operand}{d:Nat}(hop:o.op=.next it false) (hdst:o.dst=some d) (hgd:o.guard=none) (hok:regionOK N (o::rest)=true)
  {k s clock:Nat}{seen:List Nat}{es:List (Nat×V×V)}{ks:Option (List Nat)}(hit:evalO (lookE st.env) it=.bp k 0) (hk:lookH st.heap k=[.iter s 0 clock seen]) (hs:lookH st.heap s=[.map es clock ks])
  (hD:(∀ (j:Nat) b kk v,es[j]?=some (b,kk,v)→b∈seen)→ev P N T (o::rest) false rest 1 ((d,.tup [.bool false])::st.env) st.heap st.used [] (fun s=>Q .normal s))
  (hM:∀ (j:Nat) b kk v,es[j]?=some (b,kk,v)→b∉seen→ev P N T (o::rest) false rest 1 ((d,.tup [.bool true,kk,v])::st.env) ((k,[.iter s 0 clock (seen++[b])])::st.heap) st.used [] (fun s=>Q .normal s)) :
  W P T Γ (.region id (o::rest).toArray false) Q st:=by
 refine ⟨fun m a w hr=>wp_mono (show (Code.region id (o::rest).toArray false).wp P (fun e a' w'=>e=.normal∧∃ st' m',Q .normal st'∧Rel Γ m' st'.den a' w') a w from ?_) fun e a' w' ⟨he,s',m',h1,h2⟩=>by subst he;exact ⟨s',m',h1,h2⟩⟩;refine wp_region ?_;have hrange:List.range (o::rest).toArray.size=0::List.range' 1 rest.length:=by
  rw [List.range_eq_range'];simp [List.range'_succ]
 rw [hrange,wpOps_cons];have ho0:(o::rest).toArray[0]?=some o:=by simp
 have hwant:Region.wanted o (yielded (o::rest).toArray a.tmps)=true:=wantedS_ok hr (by simp [wantedS,hgd]);have hdd:dstOK Γ.N o.dst=true:=by rw [hN];exact (regionOK_spec hok).1 o (by simp)
 unfold wpOp;simp only [ho0,hwant,if_true];refine .inl ?_;unfold Oper.wp;have hvi:=hr.evalO it;have hit':evalO st.den.env it=.bp k 0:=hit;rw [hit'] at hvi;have hkk:st.den.heap k=[.iter s 0 clock seen]:=hk;have hss:st.den.heap s=[.map es clock ks]:=hs;obtain ⟨x,hx,hc,hI⟩:=hr.bp_blk hvi hkk;obtain ⟨i1,i2,i3,i4⟩:=hI;obtain ⟨y,hy,hB⟩:=hr.heap s 0 (.map es clock ks) (by rw [hss];rfl);obtain ⟨h3,h4,ents,h5,h6,h7,h8,h9⟩:=hB;have hit2:=i4 y hy h4;have hex:∀ {v:Value}{w':World},(Instr.next (.pointer (some ⟨x.b,0,none⟩)) false o.type).run P w=.ok v w'→(execOp a.eval o).run P w=.ok (.value v) w':=fun hv=>by
  simp only [execOp,hop];rw [hc];simp [hv]
 rcases run_next_at (P:=P) w o.type x.b y.b clock clock seen.toArray ents clock hit2 h5 (fun e he=>by
   obtain ⟨i,hi⟩:=List.mem_iff_getElem?.1 he
   exact h7 i e (by simpa using hi)) (Nat.le_refl _) with ⟨g1,g2⟩ | ⟨e,ge,w1,gw,g2⟩
 ·rw [hex g2];simp only [Oper.upon];refine wpOps_rest hE hN hok (st1:=⟨(d,.tup [.bool false])::st.env,st.heap,st.used⟩) (hD fun j b kk v hj=>?_) (m:=m) ?_
  ·obtain ⟨e,q1,q2,_⟩:=h9 j b kk v hj;have hz:leftOf ents seen.toArray=#[]:=Array.eq_empty_of_size_eq_zero g1;unfold leftOf at hz;rw [Array.filter_eq_empty_iff] at hz;have:=hz e (Array.mem_of_getElem? q1);rw [←q2];simpa using this
  ·have:=hr.putO (d:=o.dst) hdd (v:=.tup [.bool false]) (c:=.tuple #[.bool false]) (.tup _ [.bool false] rfl fun j u x hj hx=>by
    match j with
    | 0=>simp at hj hx;subst hj hx;exact .bool _
    | j+1=>simp at hj) (by simp [V.sites,sitesL])
   rw [hdst] at this ⊢;have e:St.den ⟨(d,.tup [.bool false])::st.env,st.heap,st.used⟩=st.den.putO (some d) (.tup [.bool false]):=by rw [←St.den_putO];rfl
   rw [e];exact this
 ·rw [hex g2];simp only [Oper.upon];have hmem:e∈ents∧e.born∉seen:=by
   unfold leftOf at ge;simp at ge;exact ⟨ge.1,by simpa using ge.2⟩
  obtain ⟨j,hj⟩:=Array.getElem?_of_mem hmem.1;have hjl:j<es.length:=by rw [←h6];exact (Array.getElem?_eq_some_iff.1 hj).1
  obtain ⟨⟨b,kk,v⟩,hes⟩:∃ p,es[j]?=some p:=⟨_,List.getElem?_eq_getElem hjl⟩
  obtain ⟨e',q1,q2,q3,q4,q5,q6⟩:=h9 j b kk v hes;rw [hj] at q1;obtain rfl:=Option.some.inj q1
  let wn:=Go.ChangeMaps.setBlock w1 x.b (.mapIter (some y.b) clock (seen.toArray.push e.born) clock)
  have hw1:w1.heap=w.heap∧w1.os=w.os∧TapeW w1 w∧w1.output=w.output:=by rcases gw with rfl | rfl<;>exact ⟨rfl,rfl,⟨rfl,fun _=>by first | exact Nat.le_refl _ | exact Nat.le_succ _⟩,rfl⟩
  have hxl:x.b<w.heap.size:=(hr.fr k 0 x hx i1).2.1;have hheap:wn.heap=w.heap.setIfInBounds x.b (.mapIter (some y.b) clock (seen.toArray.push e.born) clock):=by simp only [wn,Go.ChangeMaps.setBlock,hw1.1]
  have hw:∀ b,b<w.heap.size→(x.nil=false→b≠x.b)→wn.heap[b]?=w.heap[b]?:=fun b hb hne=>by
   rw [hheap,Array.getElem?_setIfInBounds_ne (Ne.symm (hne i1))]
  have hz:w.heap.size≤wn.heap.size:=by rw [hheap];simp
  have hsh:∀ b e n,w.shape? b=some (e,n)→wn.shape? b=some (e,n):=fun b e n hb=>by
   by_cases he:b=x.b
   ·subst he;simp [World.shape?,hit2] at hb
   ·rw [shape?_of_heap (w:=w) (hw b (shape_lt hb) fun _=>he)];exact hb
  have hks:k≠s:=fun e=>by
   subst e;rw [hkk] at hss;cases hss
  have hus:st.den.used s=true:=hr.useH s (by rw [hss];simp);have hrel:=hr.at k 0 (blk:=.iter s 0 clock seen) (by rw [hkk];rfl) hx x (.iter s 0 clock (seen++[b])) (.inl rfl) hw hz hsh hw1.2.1 hw1.2.2.1 hw1.2.2.2 (fun _=>.inl ⟨i1,rfl⟩) hus
   ⟨i1,i2,i3,fun y' hy' h0=>by
    rw [MM.at_self hx] at hy'
    rw [hy] at hy';cases hy'
    rw [hheap,←q2];simp [hxl]⟩
  have carry:∀ {v c},VRel w (Forb Γ m) m v c→VRel wn (Forb Γ (MM.at m k 0 x)) (MM.at m k 0 x) v c:=fun hv=>Rel.carryAt hx (.inl rfl) hw hz hsh (fun _=>.inl ⟨i1,rfl⟩) hv;have hwi:=hr.useB s 0 (.map es clock ks) (by rw [hss];rfl);have hvs:∀ q∈v.sites,st.den.used q=true:=fun q hq=>by
   cases ks with
   | none=>exact hwi j b kk v hes q hq
   | some l=>exact hwi q (q4 l rfl q hq)
  have hrel2:=hrel.putO (d:=o.dst) hdd (v:=.tup [.bool true,kk,v]) (c:=.tuple #[.bool true,e.key,e.val]) (.tup _ [.bool true,e.key,e.val] rfl fun j u x hj hx=>by
    match j with
    | 0=>simp at hj hx;subst hj hx;exact .bool _
    | 1=>simp at hj hx;subst hj hx;exact carry q5
    | 2=>simp at hj hx;subst hj hx;exact carry q6
    | j+3=>simp at hj) (fun q hq=>by
     have:q∈v.sites:=by simpa [V.sites,sitesL,q3] using hq
     exact hvs q this)
  refine wpOps_rest hE hN hok (st1:=⟨(d,.tup [.bool true,kk,v])::st.env,(k,[.iter s 0 clock (seen++[b])])::st.heap,st.used⟩) (hM j b kk v hes (by rw [←q2];exact hmem.2)) (m:=MM.at m k 0 x) ?_;rw [hdst] at hrel2 ⊢;have ee:St.den ⟨(d,.tup [.bool true,kk,v])::st.env,(k,[.iter s 0 clock (seen++[b])])::st.heap,st.used⟩=(st.den.at k 0 (.iter s 0 clock (seen++[b]))).putO (some d) (.tup [.bool true,kk,v]):=by
   have h10:=St.den_ups [.upd k 0 (.iter s 0 clock (seen++[b]))] st;simp only [St.ups,ASt.ups,List.foldl_cons,List.foldl_nil,ASt.up,hk] at h10;rw [←h10,←St.den_putO];rfl
  rw [ee];exact hrel2
end
end Go.Sx
