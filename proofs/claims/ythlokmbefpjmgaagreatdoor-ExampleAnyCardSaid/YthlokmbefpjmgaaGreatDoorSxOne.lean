/- What is known of values, of memory and of single operations: the rules by which an operation is stepped through. -/
import Derived.Orders
import Derived.Laws.World
import Derived.Laws.Cells
import Derived.Laws.Sem
import Derived.Below
import Derived.Deep.AppendSrc
import Derived.Deep.Upon
import Derived.Laws.Strings
import Derived.IntWalk
set_option linter.unusedVariables false
set_option linter.unusedSimpArgs false
namespace Go.Sx
open Go
inductive V where
 | dead
 | bool (b:Bool)
 | int (k:IntKind) (n:Int)
 | str (s:List UInt8)
 | nilp
 | bp (s o:Nat)
 | pel (s i r o n:Nat)
 | ro (row:List V) (o:Nat)
 | sl (rows:List (List V)) (full:Bool)
 | osl (s i o l n:Nat)
 | nils
 | agg (cs:List V)
 | tup (vs:List V)
 | fn (f:Nat) (caps:List V)
 | nilf
 | iface (t:Nat) (v:V)
 | nili
 | omap (s i:Nat)
 | oslc (s i o l n cap:Nat)
 | nilm
 | sle
 | dmap (rows:List (List V))
 deriving Inhabited
def V.one:V→Bool
 | .agg _=>false
 | .tup _=>false
 | _=>true
mutual
def V.sites:V→List Nat
 | .bp s _=>[s]
 | .pel s _ _ _ _=>[s]
 | .osl s _ _ _ _=>[s]
 | .nils=>[]
 | .omap s _=>[s]
 | .oslc s _ _ _ _ _=>[s]
 | .agg cs=>sitesL cs
 | .tup vs=>sitesL vs
 | .fn _ caps=>sitesL caps
 | .iface _ v=>v.sites
 | .dead=>[]
 | .bool _=>[]
 | .int _ _=>[]
 | .str _=>[]
 | .nilp=>[]
 | .ro _ _=>[]
 | .sl _ _=>[]
 | .nilf=>[]
 | .nili=>[]
 | .nilm=>[]
 | .sle=>[]
 | .dmap _=>[]
def sitesL:List V→List Nat
 | []=>[]
 | v::vs=>v.sites++sitesL vs
end
mutual
def V.ren (ρ:Nat→Option Nat):V→V
 | .bp s o=>match ρ s with | some s'=>.bp s' o | none=>.dead
 | .pel s i r o n=>match ρ s with | some s'=>.pel s' i r o n | none=>.dead
 | .osl s i o l n=>match ρ s with | some s'=>.osl s' i o l n | none=>.dead
 | .nils=>.nils
 | .omap s i=>match ρ s with | some s'=>.omap s' i | none=>.dead
 | .oslc s i o l n cap=>match ρ s with | some s'=>.oslc s' i o l n cap | none=>.dead
 | .agg cs=>.agg (renL ρ cs)
 | .tup vs=>.tup (renL ρ vs)
 | .fn f caps=>.fn f (renL ρ caps)
 | .iface t v=>.iface t (v.ren ρ)
 | .dead=>.dead
 | .bool b=>.bool b
 | .int k n=>.int k n
 | .str s=>.str s
 | .nilp=>.nilp
 | .ro row o=>.ro row o
 | .sl rows full=>.sl rows full
 | .nilf=>.nilf
 | .nili=>.nili
 | .nilm=>.nilm
 | .sle=>.sle
 | .dmap rows=>.dmap rows
def renL (ρ:Nat→Option Nat):List V→List V
 | []=>[]
 | v::vs=>v.ren ρ::renL ρ vs
end
theorem renL_eq (ρ:Nat→Option Nat) (l:List V):renL ρ l=l.map (V.ren ρ):=by
 induction l with
 | nil=>simp [renL]
 | cons v l ih=>simp [renL,ih]
theorem sitesL_eq (l:List V):sitesL l=l.flatMap V.sites:=by
 induction l with
 | nil=>simp [sitesL]
 | cons v l ih=>simp [sitesL,ih]
theorem V.one_ren' {ρ:Nat→Option Nat}{v:V}(h:v.one=true):(v.ren ρ).one=true:=by
 cases v
 case bp s o=>simp only [V.ren];cases ρ s<;>rfl
 case pel s i r o n=>simp only [V.ren];cases ρ s<;>rfl
 case osl s i o l n=>simp only [V.ren];cases ρ s<;>rfl
 case omap s i=>simp only [V.ren];cases ρ s<;>rfl
 case oslc s i o l n cap=>simp only [V.ren];cases ρ s<;>rfl
 all_goals simp_all [V.ren,V.one]
mutual
theorem V.ren_same {ρ:Nat→Option Nat}:(v:V)→(∀ s∈v.sites,ρ s=some s)→v.ren ρ=v
 | .bp s o,h=>by simp [V.ren,h s (by simp [V.sites])]
 | .pel s i r o n,h=>by simp [V.ren,h s (by simp [V.sites])]
 | .osl s i o l n,h=>by simp [V.ren,h s (by simp [V.sites])]
 | .nils,_=>by simp [V.ren]
 | .omap s i,h=>by simp [V.ren,h s (by simp [V.sites])]
 | .oslc s i o l n cap,h=>by simp [V.ren,h s (by simp [V.sites])]
 | .agg cs,h=>by simp only [V.ren,renL_same cs (by simpa [V.sites] using h)]
 | .tup cs,h=>by simp only [V.ren,renL_same cs (by simpa [V.sites] using h)]
 | .fn f cs,h=>by simp only [V.ren,renL_same cs (by simpa [V.sites] using h)]
 | .iface t v,h=>by simp only [V.ren,V.ren_same v (by simpa [V.sites] using h)]
 | .dead,_=>by simp [V.ren]
 | .bool _,_=>by simp [V.ren]
 | .int _ _,_=>by simp [V.ren]
 | .str _,_=>by simp [V.ren]
 | .nilp,_=>by simp [V.ren]
 | .ro _ _,_=>by simp [V.ren]
 | .sl _ _,_=>by simp [V.ren]
 | .nilf,_=>by simp [V.ren]
 | .nili,_=>by simp [V.ren]
 | .nilm,_=>by simp [V.ren]
 | .sle,_=>by simp [V.ren]
 | .dmap _,_=>by simp [V.ren]
theorem renL_same {ρ:Nat→Option Nat}:(l:List V)→(∀ s∈sitesL l,ρ s=some s)→renL ρ l=l
 | [],_=>by simp [renL]
 | v::vs,h=>by
  simp only [renL];rw [V.ren_same v (fun s hs=>h s (by simp [sitesL,hs])),renL_same vs (fun s hs=>h s (by simp [sitesL,hs]))]
end
mutual
theorem ren_sites {ρ:Nat→Option Nat}:(v:V)→∀ s∈(v.ren ρ).sites,∃ t∈v.sites,ρ t=some s
 | .bp s o,u,h=>by
  simp only [V.ren] at h;cases hr:ρ s with
  | none=>simp [hr,V.sites] at h
  | some s'=>simp only [hr,V.sites,List.mem_singleton] at h;subst h;exact ⟨s,by simp [V.sites],hr⟩
 | .pel s i r o n,u,h=>by
  simp only [V.ren] at h;cases hr:ρ s with
  | none=>simp [hr,V.sites] at h
  | some s'=>simp only [hr,V.sites,List.mem_singleton] at h;subst h;exact ⟨s,by simp [V.sites],hr⟩
 | .nils,u,h=>by simp [V.ren,V.sites] at h
 | .osl s i o l n,u,h=>by
  simp only [V.ren] at h;cases hr:ρ s with
  | none=>simp [hr,V.sites] at h
  | some s'=>simp only [hr,V.sites,List.mem_singleton] at h;subst h;exact ⟨s,by simp [V.sites],hr⟩
 | .oslc s i o l n cap,u,h=>by
  simp only [V.ren] at h;cases hr:ρ s with
  | none=>simp [hr,V.sites] at h
  | some s'=>simp only [hr,V.sites,List.mem_singleton] at h;subst h;exact ⟨s,by simp [V.sites],hr⟩
 | .omap s i,u,h=>by
  simp only [V.ren] at h;cases hr:ρ s with
  | none=>simp [hr,V.sites] at h
  | some s'=>simp only [hr,V.sites,List.mem_singleton] at h;subst h;exact ⟨s,by simp [V.sites],hr⟩
 | .agg cs,u,h=>by simp only [V.ren,V.sites] at h ⊢;exact renL_sites cs u h
 | .tup cs,u,h=>by simp only [V.ren,V.sites] at h ⊢;exact renL_sites cs u h
 | .fn f cs,u,h=>by simp only [V.ren,V.sites] at h ⊢;exact renL_sites cs u h
 | .iface t v,u,h=>by simp only [V.ren,V.sites] at h ⊢;exact ren_sites v u h
 | .dead,u,h=>by simp [V.ren,V.sites] at h
 | .bool _,u,h=>by simp [V.ren,V.sites] at h
 | .int _ _,u,h=>by simp [V.ren,V.sites] at h
 | .str _,u,h=>by simp [V.ren,V.sites] at h
 | .nilp,u,h=>by simp [V.ren,V.sites] at h
 | .ro _ _,u,h=>by simp [V.ren,V.sites] at h
 | .sl _ _,u,h=>by simp [V.ren,V.sites] at h
 | .nilf,u,h=>by simp [V.ren,V.sites] at h
 | .nili,u,h=>by simp [V.ren,V.sites] at h
 | .nilm,u,h=>by simp [V.ren,V.sites] at h
 | .sle,u,h=>by simp [V.ren,V.sites] at h
 | .dmap _,u,h=>by simp [V.ren,V.sites] at h
theorem renL_sites {ρ:Nat→Option Nat}:(l:List V)→∀ s∈sitesL (renL ρ l),∃ t∈sitesL l,ρ t=some s
 | [],u,h=>by simp [renL,sitesL] at h
 | v::vs,u,h=>by
  simp only [renL,sitesL,List.mem_append] at h;rcases h with h | h
  ·obtain ⟨t,h1,h2⟩:=ren_sites v u h;exact ⟨t,by simp [sitesL,h1],h2⟩
  ·obtain ⟨t,h1,h2⟩:=renL_sites vs u h;exact ⟨t,by simp [sitesL,h1],h2⟩
end
theorem V.ren_pure {ρ:Nat→Option Nat}{v:V}(h:v.sites=[]):v.ren ρ=v:=V.ren_same v (by simp [h])
structure MB where
 b:Nat
 base:Nat
 sz:Nat
 n:Nat
 nil:Bool
inductive Blk where
 | rows (sz:Nat) (rows:List (List V)) (ks:Option (List Nat))
 | map (es:List (Nat×V×V)) (clock:Nat) (ks:Option (List Nat))
 | iter (s i:Nat) (clock:Nat) (seen:List Nat)
 | gone
 deriving Inhabited
abbrev MM:=Nat→Nat→Option MB
def OslOK (w:World) (x:MB) (o l:Nat) (c:Value):Prop:=
 (l=0∧∃ a:Option Addr,c=.slice a 0 0) ∨
 (x.nil=false∧∃ cap e n,c=.slice (some ⟨x.b,x.base+o*x.sz,none⟩) l cap∧l≤cap∧cap≤maxLen∧w.shape? x.b=some (e,n)∧x.base+(o+cap)*x.sz≤n)
def OslC (w:World) (x:MB) (o l cap:Nat) (c:Value):Prop:=
 (l=0∧cap=0∧∃ a:Option Addr,c=.slice a 0 0) ∨
 (x.nil=false∧∃ e n,c=.slice (some ⟨x.b,x.base+o*x.sz,none⟩) l cap∧l≤cap∧cap≤maxLen∧w.shape? x.b=some (e,n)∧x.base+(o+cap)*x.sz≤n)
inductive VRel (w:World) (F:Nat→Prop) (m:MM):V→Value→Prop
 | dead (c:Value):VRel w F m .dead c
 | bool (b:Bool):VRel w F m (.bool b) (.bool b)
 | int (k:IntKind) (n:Int):VRel w F m (.int k n) (.int k n)
 | str (s:List UInt8) (h:s.length≤maxLen):VRel w F m (.str s) (.string ⟨s.toArray⟩)
 | nilp:VRel w F m .nilp (.pointer none)
 | bp (s o:Nat) (c:Value) (hc:∃ a,c=.pointer (some a)) (h:∀ x,m s 0=some x→1≤x.n∧(x.n=1→x.nil=false∧c=.pointer (some ⟨x.b,x.base+o,none⟩))):VRel w F m (.bp s o) c
 | pel (s i r o n:Nat) (c:Value) (hc:∃ a,c=.pointer (some a)) (h:∀ x,m s i=some x→n≤x.n∧(n=x.n→x.nil=false∧c=.pointer (some ⟨x.b,x.base+r*x.sz+o,none⟩))):VRel w F m (.pel s i r o n) c
 | ro (row:List V) (o b base:Nat) (c:Nat→Value) (hF:¬ F b) (hb:b<w.heap.size) (ho:o≤row.length)
   (hd:∀ (j:Nat) (v:V),row[j]?=some v→v.sites=[]) (h1:∀ (j:Nat) (v:V),row[j]?=some v→v.one=true)
   (ho1:∀ (j:Nat) (v:V),row[j]?=some v→(c j).oneCell'=true) (hc:∀ (j:Nat) (v:V),row[j]?=some v→w.cell? ⟨b,base+j,none⟩=some (c j)) (hv:∀ (j:Nat) (v:V),row[j]?=some v→VRel w F m v (c j)) :
   VRel w F m (.ro row o) (.pointer (some ⟨b,base+o,none⟩))
 | nilsl (full:Bool) (a:Option Addr):VRel w F m (.sl [] full) (.slice a 0 0)
 | sl (rows:List (List V)) (full:Bool) (sz b base cap:Nat) (c:Nat→Nat→Value) (hF:rows≠[]→¬ F b∧b<w.heap.size)
   (hl:rows.length≤cap) (hm:cap≤maxLen) (hf:full=true→cap=rows.length) (hz:∀ (i:Nat) (r:List V),rows[i]?=some r→r.length=sz)
   (hd:∀ (i:Nat) (r:List V) (j:Nat) (v:V),rows[i]?=some r→r[j]?=some v→v.sites=[]) (h1:∀ (i:Nat) (r:List V) (j:Nat) (v:V),rows[i]?=some r→r[j]?=some v→v.one=true)
   (ho1:∀ (i:Nat) (r:List V) (j:Nat) (v:V),rows[i]?=some r→r[j]?=some v→(c i j).oneCell'=true)
   (hc:∀ (i:Nat) (r:List V) (j:Nat) (v:V),rows[i]?=some r→r[j]?=some v→w.cell? ⟨b,base+i*sz+j,none⟩=some (c i j))
   (hv:∀ (i:Nat) (r:List V) (j:Nat) (v:V),rows[i]?=some r→r[j]?=some v→VRel w F m v (c i j)) :
   VRel w F m (.sl rows full) (.slice (some ⟨b,base,none⟩) rows.length cap)
 | nils:VRel w F m .nils (.slice none 0 0)
 | osl (s i o l n:Nat) (c:Value) (hc:∃ a l' k,c=.slice a l' k) (h:∀ x,m s i=some x→n≤x.n∧(n=x.n→o+l≤n∧OslOK w x o l c)):VRel w F m (.osl s i o l n) c
 | agg (cs:List V) (c:List Value) (hl:cs.length=c.length) (ho:∀ x∈c,x.oneCell'=true) (h1:∀ (j:Nat) (v:V),cs[j]?=some v→v.one=true)
   (hv:∀ (j:Nat) (v:V) (x:Value),cs[j]?=some v→c[j]?=some x→VRel w F m v x):VRel w F m (.agg cs) (.agg c.toArray)
 | tup (cs:List V) (c:List Value) (hl:cs.length=c.length)
   (hv:∀ (j:Nat) (v:V) (x:Value),cs[j]?=some v→c[j]?=some x→VRel w F m v x):VRel w F m (.tup cs) (.tuple c.toArray)
 | fn (f:Nat) (cs:List V) (c:List Value) (hl:cs.length=c.length)
   (hv:∀ (j:Nat) (v:V) (x:Value),cs[j]?=some v→c[j]?=some x→VRel w F m v x):VRel w F m (.fn f cs) (.func (.func f) #[] c.toArray)
 | nilf:VRel w F m .nilf .nilFunc
 | iface (t:Nat) (v:V) (c:Value) (h:VRel w F m v c):VRel w F m (.iface t v) (.iface t c)
 | nili:VRel w F m .nili .nilIface
 | omap (s i:Nat) (c:Value) (hc:∃ r,c=.map r) (h:∀ x,m s i=some x→(x.n=0→c=.map (some x.b))):VRel w F m (.omap s i) c
 | oslc (s i o l n cap:Nat) (c:Value) (hc:∃ a l' k,c=.slice a l' k) (h:∀ x,m s i=some x→n≤x.n∧(n=x.n→o+l≤n∧OslC w x o l cap c)):VRel w F m (.oslc s i o l n cap) c
 | nilm:VRel w F m .nilm (.map none)
 | sle (a:Addr) (cap:Nat) (h:cap=0∨(a.spot=none∧cap≤maxLen)):VRel w F m .sle (.slice (some a) 0 cap)
 | dmap (rows:List (List V)) (b clock:Nat) (ents:Array MapEntry) (c:Nat→Nat→Value) (hF:¬ F b∧b<w.heap.size) (hh:w.heap[b]?=some (.map ents clock)) (hs:ents.size=rows.length)
   (hd:∀ (i:Nat) (r:List V) (j:Nat) (v:V),rows[i]?=some r→r[j]?=some v→v.sites=[])
   (hc:∀ (i:Nat) (e:MapEntry),ents[i]?=some e→e.key=c i 0∧e.val=c i 1)
   (hv:∀ (i:Nat) (r:List V) (j:Nat) (v:V),rows[i]?=some r→r[j]?=some v→VRel w F m v (c i j)) :
   VRel w F m (.dmap rows) (.map (some b))
theorem shape?_of_heap {w w':World}{b:Nat}(h:w'.heap[b]?=w.heap[b]?):w'.shape? b=w.shape? b:=by
 simp only [World.shape?,h]
theorem cell?_of_heap {w w':World}{b:Nat}(h:w'.heap[b]?=w.heap[b]?) (o:Nat):w'.cell? ⟨b,o,none⟩=w.cell? ⟨b,o,none⟩:=by
 simp only [World.cell?,h]
theorem OslOK.mono {w w':World}{x:MB}{o l:Nat}{c:Value}(hs:∀ b e n,w.shape? b=some (e,n)→w'.shape? b=some (e,n)) (h:OslOK w x o l c):OslOK w' x o l c:=by
 rcases h with h | ⟨h0,cap,e,n,h1,h2,h3,h4,h5⟩
 ·exact .inl h
 ·exact .inr ⟨h0,cap,e,n,h1,h2,h3,hs _ _ _ h4,h5⟩
theorem OslC.mono {w w':World}{x:MB}{o l cap:Nat}{c:Value}(hs:∀ b e n,w.shape? b=some (e,n)→w'.shape? b=some (e,n)) (h:OslC w x o l cap c):OslC w' x o l cap c:=by
 rcases h with h | ⟨h0,e,n,h1,h2,h3,h4,h5⟩
 ·exact .inl h
 ·exact .inr ⟨h0,e,n,h1,h2,h3,hs _ _ _ h4,h5⟩
theorem OslC.osl {w:World}{x:MB}{o l cap:Nat}{c:Value}(h:OslC w x o l cap c):OslOK w x o l c:=by
 rcases h with ⟨h1,_,h2⟩ | ⟨h0,e,n,h⟩
 ·exact .inl ⟨h1,h2⟩
 ·exact .inr ⟨h0,cap,e,n,h⟩
theorem OslOK.cap {w:World}{x:MB}{o l:Nat}{c:Value}(h:OslOK w x o l c):∃ cap,OslC w x o l cap c∧l≤cap∧cap≤maxLen:=by
 rcases h with ⟨h1,h2⟩ | ⟨h0,cap,e,n,h,g1,g2,g3⟩
 ·exact ⟨0,.inl ⟨h1,rfl,h2⟩,by omega,Nat.zero_le _⟩
 ·exact ⟨cap,.inr ⟨h0,e,n,h,g1,g2,g3⟩,g1,g2⟩
def Adv (x x':MB):Prop:=x'=x∨x.n<x'.n
theorem VRel.tr {w w':World}{F F':Nat→Prop}{m m':MM}{ρ:Nat→Option Nat}
  (hd:∀ b,b<w.heap.size→¬ F b→w'.heap[b]?=w.heap[b]?∧¬ F' b) (hz:w.heap.size≤w'.heap.size)
  (hs:∀ b e n,w.shape? b=some (e,n)→w'.shape? b=some (e,n))
  (hm:∀ s s',ρ s=some s'→∀ i x',m' s' i=some x'→∃ x,m s i=some x∧Adv x x')
  {v:V}{c:Value}(h:VRel w F m v c):VRel w' F' m' (v.ren ρ) c:=by
 induction h with
 | dead c=>simp only [V.ren];exact .dead c
 | bool b=>simp only [V.ren];exact .bool b
 | int k n=>simp only [V.ren];exact .int k n
 | str s h=>simp only [V.ren];exact .str s h
 | nilp=>simp only [V.ren];exact .nilp
 | bp s o c hc h =>
  simp only [V.ren];cases hr:ρ s with
  | none=>exact .dead c
  | some s' =>
   refine .bp s' o c hc fun x' hx'=>?_;obtain ⟨x,hx,ha⟩:=hm s s' hr 0 x' hx';obtain ⟨h1,h2⟩:=h x hx;rcases ha with rfl | ha
   ·exact ⟨h1,h2⟩
   ·exact ⟨by omega,fun h=>by omega⟩
 | pel s i r o n c hc h =>
  simp only [V.ren];cases hr:ρ s with
  | none=>exact .dead c
  | some s' =>
   refine .pel s' i r o n c hc fun x' hx'=>?_;obtain ⟨x,hx,ha⟩:=hm s s' hr i x' hx';obtain ⟨h1,h2⟩:=h x hx;rcases ha with rfl | ha
   ·exact ⟨h1,h2⟩
   ·exact ⟨by omega,fun h=>by omega⟩
 | ro row o b base c hF hb ho hdd h1 ho1 hc hv ih =>
  simp only [V.ren];obtain ⟨e,f⟩:=hd b hb hF;refine .ro row o b base c f (Nat.lt_of_lt_of_le hb hz) ho hdd h1 ho1 (fun j v hj=>?_) (fun j v hj=>?_)
  ·rw [cell?_of_heap e];exact hc j v hj
  ·have h0:=ih j v hj;have hs0:=hdd j v hj;clear ih hv hc;exact ren_id hs0 h0
 | nilsl full a=>simp only [V.ren];exact .nilsl full a
 | sl rows full sz b base cap c hF hl hmx hf hz' hdd h1 ho1 hc hv ih =>
  simp only [V.ren];refine .sl rows full sz b base cap c (fun hne=>?_) hl hmx hf hz' hdd h1 ho1 (fun i r j v hi hj=>?_) (fun i r j v hi hj=>?_)
  ·obtain ⟨e,f⟩:=hF hne;exact ⟨(hd b f e).2,Nat.lt_of_lt_of_le f hz⟩
  ·have hne:rows≠[]:=by intro h0;subst h0;simp at hi
   obtain ⟨e,f⟩:=hF hne;rw [cell?_of_heap (hd b f e).1];exact hc i r j v hi hj
  ·exact ren_id (hdd i r j v hi hj) (ih i r j v hi hj)
 | nils=>simp only [V.ren];exact .nils
 | osl s i o l n c hc h =>
  simp only [V.ren];cases hr:ρ s with
  | none=>exact .dead c
  | some s' =>
   refine .osl s' i o l n c hc fun x' hx'=>?_;obtain ⟨x,hx,ha⟩:=hm s s' hr i x' hx';obtain ⟨h1,h2⟩:=h x hx;rcases ha with rfl | ha
   ·exact ⟨h1,fun h=>⟨(h2 h).1,(h2 h).2.mono hs⟩⟩
   ·exact ⟨by omega,fun h=>by omega⟩
 | agg cs c hl ho h1 hv ih =>
  simp only [V.ren,renL_eq];refine .agg _ c (by simpa using hl) ho (fun j v hj=>?_) (fun j v x hj hx=>?_)
  ·simp only [List.getElem?_map,Option.map_eq_some_iff] at hj;obtain ⟨u,hu,rfl⟩:=hj;exact V.one_ren' (h1 j u hu)
  ·simp only [List.getElem?_map,Option.map_eq_some_iff] at hj;obtain ⟨u,hu,rfl⟩:=hj;exact ih j u x hu hx
 | tup cs c hl hv ih =>
  simp only [V.ren,renL_eq];refine .tup _ c (by simpa using hl) (fun j v x hj hx=>?_);simp only [List.getElem?_map,Option.map_eq_some_iff] at hj;obtain ⟨u,hu,rfl⟩:=hj;exact ih j u x hu hx
 | fn f cs c hl hv ih =>
  simp only [V.ren,renL_eq];refine .fn f _ c (by simpa using hl) (fun j v x hj hx=>?_);simp only [List.getElem?_map,Option.map_eq_some_iff] at hj;obtain ⟨u,hu,rfl⟩:=hj;exact ih j u x hu hx
 | nilf=>simp only [V.ren];exact .nilf
 | iface t v c h ih=>simp only [V.ren];exact .iface t _ c ih
 | nili=>simp only [V.ren];exact .nili
 | oslc s i o l n cap c hc h =>
  simp only [V.ren];cases hr:ρ s with
  | none=>exact .dead c
  | some s' =>
   refine .oslc s' i o l n cap c hc fun x' hx'=>?_;obtain ⟨x,hx,ha⟩:=hm s s' hr i x' hx';obtain ⟨h1,h2⟩:=h x hx;rcases ha with rfl | ha
   ·exact ⟨h1,fun h=>⟨(h2 h).1,(h2 h).2.mono hs⟩⟩
   ·exact ⟨by omega,fun h=>by omega⟩
 | omap s i c hc h =>
  simp only [V.ren];cases hr:ρ s with
  | none=>exact .dead c
  | some s' =>
   refine .omap s' i c hc fun x' hx' h0=>?_;obtain ⟨x,hx,ha⟩:=hm s s' hr i x' hx';rcases ha with rfl | ha
   ·exact h x' hx h0
   ·omega
 | nilm=>simp only [V.ren];exact .nilm
 | sle a cap h=>simp only [V.ren];exact .sle a cap h
 | dmap rows b clock ents c hF hh hs' hdd hc hv ih =>
  simp only [V.ren];obtain ⟨e,f⟩:=hd b hF.2 hF.1;exact .dmap rows b clock ents c ⟨f,Nat.lt_of_lt_of_le hF.2 hz⟩ (by rw [e];exact hh) hs' hdd hc (fun i r j v hi hj=>ren_id (hdd i r j v hi hj) (ih i r j v hi hj))
 where
 ren_id {w':World}{F':Nat→Prop}{m':MM}{ρ:Nat→Option Nat}{v:V}{c:Value}(h0:v.sites=[]) (h:VRel w' F' m' (v.ren ρ) c):VRel w' F' m' v c:=by
  rwa [V.ren_pure h0] at h
theorem VRel.mono {w w':World}{F F':Nat→Prop}{m m':MM}
  (hd:∀ b,b<w.heap.size→¬ F b→w'.heap[b]?=w.heap[b]?∧¬ F' b) (hz:w.heap.size≤w'.heap.size)
  (hs:∀ b e n,w.shape? b=some (e,n)→w'.shape? b=some (e,n))
  (hm:∀ s i x',m' s i=some x'→∃ x,m s i=some x∧Adv x x')
  {v:V}{c:Value}(h:VRel w F m v c):VRel w' F' m' v c:=by
 have:=h.tr (ρ:=some) hd hz hs (fun s s' hs=>by cases hs;exact hm s)
 rwa [V.ren_same v (fun _ _=>rfl)] at this
theorem VRel.on {w w':World}{F F':Nat→Prop}{m m':MM}{U:Nat→Prop}
  (hd:∀ b,b<w.heap.size→¬ F b→w'.heap[b]?=w.heap[b]?∧¬ F' b) (hz:w.heap.size≤w'.heap.size)
  (hs:∀ b e n,w.shape? b=some (e,n)→w'.shape? b=some (e,n))
  (hm:∀ s,U s→∀ i x',m' s i=some x'→∃ x,m s i=some x∧Adv x x')
  {v:V}{c:Value}(hU:∀ s∈v.sites,U s) (h:VRel w F m v c):VRel w' F' m' v c:=by
 classical
 have:=h.tr (ρ:=fun k=>if U k then some k else none) (m':=m') hd hz hs (fun s s' hs' i x' hx'=>by
  split at hs'
  ·rename_i hu;cases hs';exact hm s hu i x' hx'
  ·cases hs')
 rwa [V.ren_same v (fun k hk=>by simp [hU k hk])] at this
theorem VRel.pure {w w':World}{F F':Nat→Prop}{m m':MM}
  (hd:∀ b,b<w.heap.size→¬ F b→w'.heap[b]?=w.heap[b]?∧¬ F' b) (hz:w.heap.size≤w'.heap.size)
  (hs:∀ b e n,w.shape? b=some (e,n)→w'.shape? b=some (e,n))
  {v:V}{c:Value}(h0:v.sites=[]) (h:VRel w F m v c):VRel w' F' m' v c:=by
 have:=h.tr (ρ:=fun _=>none) (m':=m') hd hz hs (fun s s' hs=>by cases hs)
 rwa [V.ren_pure h0] at this
class Glob where
 ok:World→Prop
 blocks:List Nat
 quiet:Prop
 stable:∀ w w':World,(∀ b∈blocks,w'.heap[b]?=w.heap[b]?)→ok w→ok w'
def GRel [Glob] (w:World) (F:Nat→Prop):Prop:=Glob.ok w∧∀ b∈Glob.blocks,b<w.heap.size∧¬ F b
theorem GRel.tr [Glob] {w w':World}{F F':Nat→Prop}(h:GRel w F) (hd:∀ b,b<w.heap.size→¬ F b→w'.heap[b]?=w.heap[b]?∧¬ F' b) (hz:w.heap.size≤w'.heap.size):GRel w' F':=
 ⟨Glob.stable w w' (fun b hb=>(hd b (h.2 b hb).1 (h.2 b hb).2).1) h.1,fun b hb=>⟨Nat.lt_of_lt_of_le (h.2 b hb).1 hz,(hd b (h.2 b hb).1 (h.2 b hb).2).2⟩⟩
structure ASt where
 env:Nat→V
 heap:Nat→List Blk
 used:Nat→Bool
def Blk.within (U:Nat→Bool):Blk→Prop
 | .rows _ rs none=>∀ (i:Nat) r (j:Nat) v,rs[i]?=some r→r[j]?=some v→∀ k∈V.sites v,U k=true
 | .rows _ _ (some ks)=>∀ k∈ks,U k=true
 | .map es _ none=>∀ (i:Nat) b k v,es[i]?=some (b,k,v)→∀ k∈V.sites v,U k=true
 | .map _ _ (some ks)=>∀ k∈ks,U k=true
 | .iter s _ _ _=>U s=true
 | .gone=>True
structure NB where
 n:Nat
 ban:List Nat
instance:Coe Nat NB:=⟨fun n=>⟨n,[]⟩⟩
structure Ctx where
 w0:World
 H0:Nat→Prop
 Fr:Nat→Prop
 m0:MM
 K0:List Nat
 N:NB
 pinv:Nat→Value
def Own (m:MM) (b:Nat):Prop:=∃ s i x,m s i=some x∧x.nil=false∧x.b=b
def Forb (Γ:Ctx) (m:MM) (b:Nat):Prop:=Γ.Fr b∨Own m b
def CellOK (w:World) (F:Nat→Prop) (m:MM) (ks:Option (List Nat)) (v:V) (a:Addr):Prop:=
 v.one=true∧(∀ l,ks=some l→∀ s∈v.sites,s∈l)∧∃ c,w.cell? a=some c∧c.oneCell'=true∧VRel w F m v c
structure RowsOK (w:World) (F:Nat→Prop) (m:MM) (x:MB) (sz:Nat) (rows:List (List V)) (ks:Option (List Nat)):Prop where
 hsz:x.sz=sz
 hn:x.n=rows.length
 len:∀ (i:Nat) r,rows[i]?=some r→r.length=sz
 nil:x.nil=true→rows=[]
 blk:x.nil=false→∃ cs e fz,w.heap[x.b]?=some (.cells cs e fz)∧(∀ o,¬ (fz.1≤o∧o<fz.2))∧x.base+rows.length*sz≤cs.size∧∀ c∈cs,c.oneCell'=true
 cell:∀ (i:Nat) r (j:Nat) v,rows[i]?=some r→r[j]?=some v→CellOK w F m ks v ⟨x.b,x.base+i*sz+j,none⟩
def MapOK (w:World) (F:Nat→Prop) (m:MM) (x:MB) (es:List (Nat×V×V)) (clock:Nat) (ks:Option (List Nat)):Prop:=
 x.nil=false∧x.n=0∧∃ ents,w.heap[x.b]?=some (.map ents clock)∧ents.size=es.length ∧
  (∀ (i:Nat) e,ents[i]?=some e→e.born<clock)∧(∀ (i j:Nat) e f,ents[i]?=some e→ents[j]?=some f→i<j→e.born<f.born) ∧
  ∀ (i:Nat) b k v,es[i]?=some (b,k,v)→∃ e,ents[i]?=some e∧e.born=b∧k.sites=[]∧(∀ l,ks=some l→∀ s∈v.sites,s∈l)∧VRel w F m k e.key∧VRel w F m v e.val
def IterOK (w:World) (m:MM) (x:MB) (s i clock:Nat) (seen:List Nat):Prop:=
 x.nil=false∧x.n=1∧x.base=0∧∀ y,m s i=some y→y.n=0→w.heap[x.b]?=some (.mapIter (some y.b) clock seen.toArray clock)
def BRel (w:World) (F:Nat→Prop) (m:MM) (x:MB):Blk→Prop
 | .rows sz rows ks=>RowsOK w F m x sz rows ks
 | .map es clock ks=>MapOK w F m x es clock ks
 | .iter s i clock seen=>IterOK w m x s i clock seen
 | .gone=>True
def TapeW [Glob] (w1 w0:World):Prop:=w1.tape=w0.tape∧(Glob.quiet→w0.drawn≤w1.drawn)
theorem TapeW.self [Glob] {w:World}:TapeW w w:=⟨rfl,fun _=>Nat.le_refl _⟩
theorem TapeW.trans [Glob] {a b c:World}(h:TapeW a b) (k:TapeW b c):TapeW a c:=⟨h.1.trans k.1,fun q=>Nat.le_trans (k.2 q) (h.2 q)⟩
structure Ext [Glob] (H0:Nat→Prop) (w0 w:World):Prop where
 os:w.os=w0.os
 tape:TapeW w w0
 output:w.output=w0.output
 size:w0.heap.size≤w.heap.size
 block:∀ b,b<w0.heap.size→¬ H0 b→w.heap[b]?=w0.heap[b]?
 shape:∀ b e n,w0.shape? b=some (e,n)→w.shape? b=some (e,n)
theorem Ext.refl [Glob] (H0:Nat→Prop) (w:World):Ext H0 w w:=⟨rfl,TapeW.self,rfl,Nat.le_refl _,fun _ _ _=>rfl,fun _ _ _ h=>h⟩
structure Rel [Glob] (Γ:Ctx) (m:MM) (s:ASt) (a:Act) (w:World):Prop where
 size:a.tmps.size=Γ.N.n
 pin:∀ t,t∈Γ.N.ban→a.tmps.getD t undef=Γ.pinv t
 defers:a.defers=[]
 env:∀ t,VRel w (Forb Γ m) m (s.env t) (a.tmps.getD t undef)
 dom:∀ k i,(m k i).isSome=true↔i<(s.heap k).length
 heap:∀ k (i:Nat) blk,(s.heap k)[i]?=some blk→∃ x,m k i=some x∧BRel w (Forb Γ m) m x blk
 inj:∀ k i x k' i' x',m k i=some x→m k' i'=some x'→x.nil=false→x'.nil=false→x.b=x'.b→k=k'∧i=i'
 fr:∀ k i x,m k i=some x→x.nil=false→¬ Γ.Fr x.b∧x.b<w.heap.size∧(Γ.H0 x.b∨Γ.w0.heap.size≤x.b)
 frw:∀ b,Γ.Fr b→b<Γ.w0.heap.size∧¬ Γ.H0 b
 keep:∀ k,k∈Γ.K0→∀ i x,m k i=some x→∃ x0,Γ.m0 k i=some x0∧Adv x0 x
 ext:Ext Γ.H0 Γ.w0 w
 useE:∀ t,∀ k∈(s.env t).sites,s.used k=true
 useH:∀ k,s.heap k≠[]→s.used k=true
 useB:∀ k (i:Nat) blk,(s.heap k)[i]?=some blk→blk.within s.used
 useK:∀ k,k∈Γ.K0→s.used k=true
 glob:GRel w (Forb Γ m)
def ASt.put (s:ASt) (t:Nat) (v:V):ASt:={ s with env:=fun u=>if u=t then v else s.env u }
theorem getD_put {a:Act}{t u:Nat}{c:Value}(ht:t<a.tmps.size):(a.put (some t) c).tmps.getD u undef=if u=t then c else a.tmps.getD u undef:=by
 simp only [Act.put,Array.getD_eq_getD_getElem?];by_cases h:u=t
 ·subst h;simp [ht]
 ·rw [if_neg h,Array.getElem?_setIfInBounds_ne (Ne.symm h)]
theorem Rel.put [Glob] {Γ:Ctx}{m:MM}{s:ASt}{a:Act}{w:World}(h:Rel Γ m s a w) {t:Nat}(ht:t<Γ.N.n) (hb:t∉Γ.N.ban) {v:V}{c:Value}
  (hv:VRel w (Forb Γ m) m v c) (hs:∀ k∈v.sites,s.used k=true):Rel Γ m (s.put t v) (a.put (some t) c) w:=by
 have hsz:=h.size;refine ⟨by simpa [Act.put] using hsz,fun u hu=>by rw [getD_put (by omega),if_neg (fun e:u=t=>hb (e ▸ hu))];exact h.pin u hu,h.defers,fun u=>?_,h.dom,h.heap,h.inj,h.fr,h.frw,h.keep,h.ext,fun u=>?_,h.useH,h.useB,h.useK,h.glob⟩
 ·rw [getD_put (by omega)];simp only [ASt.put];by_cases hu:u=t
  ·simp only [hu,if_true];exact hv
  ·simp only [hu,if_false];exact h.env u
 ·simp only [ASt.put];by_cases hu:u=t
  ·simp only [hu,if_true];exact hs
  ·simp only [hu,if_false];exact h.useE u
theorem Rel.sameHeap [Glob] {Γ:Ctx}{m:MM}{s:ASt}{a:Act}{w w':World}(h:Rel Γ m s a w) (hh:w'.heap=w.heap) (ho:w'.os=w.os) (ht:TapeW w' w) (hp:w'.output=w.output):Rel Γ m s a w':=by
 have hd:∀ b,b<w.heap.size→¬ Forb Γ m b→w'.heap[b]?=w.heap[b]?∧¬ Forb Γ m b:=fun b _ hb=>⟨by rw [hh],hb⟩
 have hs:∀ b e n,w.shape? b=some (e,n)→w'.shape? b=some (e,n):=fun b e n hb=>by rw [shape?_of_heap (w:=w) (by rw [hh])];exact hb
 have hm:∀ s i x',m s i=some x'→∃ x,m s i=some x∧Adv x x':=fun _ _ x hx=>⟨x,hx,.inl rfl⟩
 have hv:∀ {v c},VRel w (Forb Γ m) m v c→VRel w' (Forb Γ m) m v c:=fun hv=>hv.mono hd (by rw [hh];exact Nat.le_refl _) hs hm;have hcell:∀ x,w'.cell? x=w.cell? x:=fun x=>by simp only [World.cell?,hh]
 refine ⟨h.size,h.pin,h.defers,fun t=>hv (h.env t),h.dom,fun k i blk hb=>?_,h.inj,fun k i x hx hn=>by rw [hh];exact h.fr k i x hx hn,h.frw,h.keep,
  ⟨ho.trans h.ext.os,ht.trans h.ext.tape,hp.trans h.ext.output,by rw [hh];exact h.ext.size,fun b hb hb'=>by rw [hh];exact h.ext.block b hb hb',fun b e n hb=>hs b e n (h.ext.shape b e n hb)⟩,h.useE,h.useH,h.useB,h.useK,h.glob.tr hd (by rw [hh];exact Nat.le_refl _)⟩
 obtain ⟨x,hx,hB⟩:=h.heap k i blk hb;refine ⟨x,hx,?_⟩;cases blk with
 | rows sz rows ks =>
  obtain ⟨h1,h2,h3,h4,h5,h6⟩:=hB;exact ⟨h1,h2,h3,h4,fun hn=>by rw [hh];exact h5 hn,fun i r j v hi hj=>by
   obtain ⟨g1,g2,c,g3,g5,g4⟩:=h6 i r j v hi hj
   exact ⟨g1,g2,c,by rw [hcell];exact g3,g5,hv g4⟩⟩
 | map es clock ks =>
  obtain ⟨h1,h2,ents,h3,h4,h5,h6,h7⟩:=hB;exact ⟨h1,h2,ents,by rw [hh];exact h3,h4,h5,h6,fun i b k v hi=>by
   obtain ⟨e,g1,g0,g2,g3,g4,g5⟩:=h7 i b k v hi
   exact ⟨e,g1,g0,g2,g3,hv g4,hv g5⟩⟩
 | iter s i clock seen =>
  obtain ⟨h1,h2,h3,h4⟩:=hB;exact ⟨h1,h2,h3,fun y hy h0=>by rw [hh];exact h4 y hy h0⟩
 | gone=>trivial
theorem BRel.on {w w':World}{F F':Nat→Prop}{m m':MM}{U:Nat→Bool}{x:MB}{blk:Blk}
  (hd:∀ b,b<w.heap.size→¬ F b→w'.heap[b]?=w.heap[b]?∧¬ F' b) (hz:w.heap.size≤w'.heap.size)
  (hs:∀ b e n,w.shape? b=some (e,n)→w'.shape? b=some (e,n))
  (hm:∀ k,U k=true→∀ i x',m' k i=some x'→∃ x,m k i=some x∧Adv x x')
  (hw:blk.within U) (hsame:x.nil=false→w'.heap[x.b]?=w.heap[x.b]?) (h:BRel w F m x blk):BRel w' F' m' x blk:=by
 have hv:∀ {v c},(∀ k∈V.sites v,U k=true)→VRel w F m v c→VRel w' F' m' v c:=fun hU hv=>hv.on (U:=fun k=>U k=true) hd hz hs hm hU;have hv0:∀ {v c},V.sites v=[]→VRel w F m v c→VRel w' F' m' v c:=fun h0 hv=>hv.pure hd hz hs h0;cases blk with
 | rows sz rows ks =>
  obtain ⟨h1,h2,h3,h4,h5,h6⟩:=h;refine ⟨h1,h2,h3,h4,fun hn=>by rw [hsame hn];exact h5 hn,fun i r j v hi hj=>?_⟩;obtain ⟨g1,g2,c,g3,g5,g4⟩:=h6 i r j v hi hj;have hn:x.nil=false:=by
   cases hnil:x.nil with
   | false=>rfl
   | true=>rw [h4 hnil] at hi;simp at hi
  refine ⟨g1,g2,c,by rw [cell?_of_heap (hsame hn)];exact g3,g5,hv (fun k hk=>?_) g4⟩;cases ks with
  | none=>exact hw i r j v hi hj k hk
  | some l=>exact hw k (g2 l rfl k hk)
 | map es clock ks =>
  obtain ⟨h1,h2,ents,h3,h4,h5,h6,h7⟩:=h;refine ⟨h1,h2,ents,by rw [hsame h1];exact h3,h4,h5,h6,fun i b k v hi=>?_⟩;obtain ⟨e,g1,g0,g2,g3,g4,g5⟩:=h7 i b k v hi;refine ⟨e,g1,g0,g2,g3,hv0 g2 g4,hv (fun q hq=>?_) g5⟩;cases ks with
  | none=>exact hw i b k v hi q hq
  | some l=>exact hw q (g3 l rfl q hq)
 | iter s i clock seen =>
  obtain ⟨h1,h2,h3,h4⟩:=h;refine ⟨h1,h2,h3,fun y hy h0=>?_⟩;obtain ⟨y0,g1,g2⟩:=hm s hw i y hy;rcases g2 with rfl | g2
  ·rw [hsame h1];exact h4 y g1 h0
  ·omega
 | gone=>trivial
theorem Rel.change [Glob] {Γ:Ctx}{m m':MM}{s s':ASt}{a:Act}{w w':World}(h:Rel Γ m s a w)
  (hw:∀ b,b<w.heap.size→¬ Own m b→w'.heap[b]?=w.heap[b]?) (hz:w.heap.size≤w'.heap.size)
  (hs:∀ b e n,w.shape? b=some (e,n)→w'.shape? b=some (e,n))
  (ho:w'.os=w.os) (ht:TapeW w' w) (hp:w'.output=w.output)
  (hm:∀ k,s.used k=true→∀ i x',m' k i=some x'→∃ x,m k i=some x∧Adv x x')
  (hF:∀ b,b<w.heap.size→Own m' b→Own m b)
  (henv:s'.env=s.env) (huse:∀ k,s.used k=true→s'.used k=true)
  (hdom:∀ k i,(m' k i).isSome=true↔i<(s'.heap k).length)
  (hheap:∀ k (i:Nat) blk',(s'.heap k)[i]?=some blk'→∃ x',m' k i=some x' ∧
   (((s.heap k)[i]?=some blk'∧m k i=some x'∧(x'.nil=false→w'.heap[x'.b]?=w.heap[x'.b]?))∨BRel w' (Forb Γ m') m' x' blk'))
  (hinj:∀ k i x k' i' x',m' k i=some x→m' k' i'=some x'→x.nil=false→x'.nil=false→x.b=x'.b→k=k'∧i=i')
  (hfr:∀ k i x,m' k i=some x→x.nil=false→¬ Γ.Fr x.b∧x.b<w'.heap.size∧(Γ.H0 x.b∨Γ.w0.heap.size≤x.b))
  (hk:∀ k,k∈Γ.K0→∀ i x,m' k i=some x→∃ x0,Γ.m0 k i=some x0∧Adv x0 x)
  (huH:∀ k,s'.heap k≠[]→s'.used k=true) (huB:∀ k (i:Nat) blk,(s'.heap k)[i]?=some blk→blk.within s'.used):Rel Γ m' s' a w':=by
 have hd:∀ b,b<w.heap.size→¬ Forb Γ m b→w'.heap[b]?=w.heap[b]?∧¬ Forb Γ m' b:=fun b hb hn =>
  ⟨hw b hb fun ho=>hn (.inr ho),fun hf=>hn (hf.imp id (hF b hb))⟩
 refine ⟨h.size,h.pin,h.defers,fun t=>by rw [henv];exact (h.env t).on (U:=fun k=>s.used k=true) hd hz hs hm (h.useE t),hdom,fun k i blk' hb=>?_,hinj,hfr,h.frw,hk,
  ⟨ho.trans h.ext.os,ht.trans h.ext.tape,hp.trans h.ext.output,Nat.le_trans h.ext.size hz,fun b hb hb'=>?_,fun b e n hb=>hs b e n (h.ext.shape b e n hb)⟩,
  fun t k hk=>huse k (h.useE t k (by rw [←henv];exact hk)),huH,huB,fun k hk=>huse k (h.useK k hk),h.glob.tr hd hz⟩
 ·obtain ⟨x',hx',hB | hB⟩:=hheap k i blk' hb
  ·obtain ⟨hbl,hx,hsame⟩:=hB;refine ⟨x',hx',?_⟩;obtain ⟨x,hx2,hB⟩:=h.heap k i blk' hbl;rw [hx] at hx2;cases hx2;exact hB.on hd hz hs hm (h.useB k i blk' hbl) hsame
  ·exact ⟨x',hx',hB⟩
 ·have hsz:=h.ext.size;rw [←h.ext.block b hb hb'];refine hw b (by omega) fun ⟨k,i,x,hx,hn,hb2⟩=>?_;obtain ⟨_,_,h3⟩:=h.fr k i x hx hn;rw [hb2] at h3;rcases h3 with h3 | h3
  ·exact hb' h3
  ·omega
def ASt.fresh (s:ASt) (k:Nat) (blk:Blk):ASt:={ env:=s.env,heap:=fun j=>if j=k then [blk] else s.heap j,used:=fun j=>if j=k then true else s.used j }
def ASt.at (s:ASt) (k i:Nat) (blk:Blk):ASt:={ s with heap:=fun j=>if j=k then (s.heap j).set i blk else s.heap j }
def MM.fresh (m:MM) (k:Nat) (x:MB):MM:=fun j i=>if j=k then (if i=0 then some x else none) else m j i
def MM.at (m:MM) (k i:Nat) (x:MB):MM:=fun j l=>if j=k∧l=i then some x else m j l
theorem Adv.trans {x y z:MB}(h:Adv x y) (g:Adv y z):Adv x z:=by
 rcases h with rfl | h
 ·exact g
 ·rcases g with rfl | g
  ·exact .inr h
  ·exact .inr (Nat.lt_trans h g)
theorem Blk.within_mono {U U':Nat→Bool}(h:∀ k,U k=true→U' k=true) {blk:Blk}(hb:blk.within U):blk.within U':=by
 cases blk with
 | rows sz rs ks=>cases ks with
  | none=>exact fun i r j v hi hj k hk=>h k (hb i r j v hi hj k hk)
  | some l=>exact fun k hk=>h k (hb k hk)
 | map es clock ks=>cases ks with
  | none=>exact fun i b k v hi q hq=>h q (hb i b k v hi q hq)
  | some l=>exact fun k hk=>h k (hb k hk)
 | iter s i clock seen=>exact h s hb
 | gone=>trivial
section
variable {Γ:Ctx}{m:MM}{s:ASt}{a:Act}{w w':World}
theorem Own.lt [Glob] (h:Rel Γ m s a w) {b:Nat}(hb:Own m b):b<w.heap.size:=by
 obtain ⟨k,i,x,hx,hn,rfl⟩:=hb;exact (h.fr k i x hx hn).2.1
theorem fresh_m {k:Nat}(hk:s.used k=false) (x:MB):∀ j,s.used j=true→∀ i x',MM.fresh m k x j i=some x'→∃ y,m j i=some y∧Adv y x':=by
 intro j hj i x' hx';have hne:j≠k:=fun e=>by rw [e,hk] at hj;cases hj
 simp only [MM.fresh,hne,if_false] at hx';exact ⟨x',hx',.inl rfl⟩
theorem fresh_own {k:Nat}{x:MB}(hx:x.nil=false→w.heap.size≤x.b):∀ b,b<w.heap.size→Own (MM.fresh m k x) b→Own m b:=by
 intro b hb ⟨j,i,y,hy,hn,hyb⟩;unfold MM.fresh at hy;by_cases hj:j=k
 ·simp only [hj,if_true] at hy;split at hy
  ·cases hy;have:=hx hn;omega
  ·cases hy
 ·simp only [hj,if_false] at hy;exact ⟨j,i,y,hy,hn,hyb⟩
theorem shape_lt {w:World}{b:Nat}{r:TypeId×Nat}(hs:w.shape? b=some r):b<w.heap.size:=by
 rcases Nat.lt_or_ge b w.heap.size with hb | hb
 ·exact hb
 ·simp [World.shape?,Array.getElem?_eq_none hb] at hs
theorem Rel.carryFresh {k:Nat}(hk:s.used k=false) {x:MB}(hw:∀ b,b<w.heap.size→w'.heap[b]?=w.heap[b]?) (hz:w.heap.size≤w'.heap.size)
  (hx:x.nil=false→w.heap.size≤x.b) {v:V}{c:Value}(hU:∀ j∈v.sites,s.used j=true) (hv:VRel w (Forb Γ m) m v c):VRel w' (Forb Γ (MM.fresh m k x)) (MM.fresh m k x) v c:=
 hv.on (U:=fun j=>s.used j=true) (fun b hb hn=>⟨hw b hb,fun hf=>hn (hf.imp id (fresh_own hx b hb))⟩) hz (fun b e n hs=>by rw [shape?_of_heap (hw b (shape_lt hs))];exact hs) (fresh_m hk x) hU
theorem Rel.fresh [Glob] (h:Rel Γ m s a w) (k:Nat) (hk:s.used k=false) (x:MB) (blk:Blk) (hw:∀ b,b<w.heap.size→w'.heap[b]?=w.heap[b]?) (hz:w.heap.size≤w'.heap.size)
  (ho:w'.os=w.os) (ht:TapeW w' w) (hp:w'.output=w.output) (hx:x.nil=false→w.heap.size≤x.b∧x.b<w'.heap.size)
  (hwi:blk.within s.used) (hB:BRel w' (Forb Γ (MM.fresh m k x)) (MM.fresh m k x) x blk):Rel Γ (MM.fresh m k x) (s.fresh k blk) a w':=by
 have hsz:=h.ext.size;have hu:∀ j,s.used j=true→(s.fresh k blk).used j=true:=fun j hj=>by simp only [ASt.fresh];split<;>first | rfl | exact hj
 refine h.change (fun b hb _=>hw b hb) hz (fun b e n hs=>by rw [shape?_of_heap (hw b (shape_lt hs))];exact hs) ho ht hp (fresh_m hk x) (fresh_own fun hn=>(hx hn).1) rfl hu
  (fun j i=>?_) (fun j i blk' hb=>?_) (fun j i y j' i' y' hy hy' hn hn' hyy=>?_) (fun j i y hy hn=>?_) (fun j hj i y hy=>?_) (fun j hj=>?_) (fun j i blk' hb=>?_)
 ·simp only [MM.fresh,ASt.fresh];by_cases hj:j=k
  ·simp only [hj,if_true];by_cases hi:i=0<;>simp [hi]
  ·simp only [hj,if_false];exact h.dom j i
 ·simp only [ASt.fresh] at hb;by_cases hj:j=k
  ·subst hj;simp only [if_true] at hb;by_cases hi:i=0
   ·subst hi;simp at hb;subst hb;exact ⟨x,by simp [MM.fresh],.inr hB⟩
   ·obtain ⟨i',rfl⟩:=Nat.exists_eq_succ_of_ne_zero hi;simp at hb
  ·simp only [hj,if_false] at hb;obtain ⟨y,hy,_⟩:=h.heap j i blk' hb;exact ⟨y,by simp [MM.fresh,hj,hy],.inl ⟨hb,hy,fun hn=>hw _ (h.fr j i y hy hn).2.1⟩⟩
 ·unfold MM.fresh at hy hy';by_cases hj:j=k<;>by_cases hj':j'=k
  ·simp only [hj,hj',if_true] at hy hy' ⊢;split at hy<;>split at hy'<;>first | (cases hy;done) | (cases hy';done) | exact ⟨trivial,by omega⟩
  ·simp only [hj,hj',if_true,if_false] at hy hy';split at hy
   ·cases hy;have:=(h.fr j' i' y' hy' hn').2.1;have:=(hx hn).1;omega
   ·cases hy
  ·simp only [hj,hj',if_true,if_false] at hy hy';split at hy'
   ·cases hy';have:=(h.fr j i y hy hn).2.1;have:=(hx hn').1;omega
   ·cases hy'
  ·simp only [hj,hj',if_false] at hy hy';exact h.inj j i y j' i' y' hy hy' hn hn' hyy
 ·unfold MM.fresh at hy;by_cases hj:j=k
  ·simp only [hj,if_true] at hy;split at hy
   ·cases hy;obtain ⟨h1,h2⟩:=hx hn;refine ⟨fun hf=>?_,h2,.inr (by omega)⟩;have:=(h.frw _ hf).1;omega
   ·cases hy
  ·simp only [hj,if_false] at hy;obtain ⟨h1,h2,h3⟩:=h.fr j i y hy hn;exact ⟨h1,by omega,h3⟩
 ·have hne:j≠k:=fun e=>by have:=h.useK j hj;rw [e,hk] at this;cases this
  simp only [MM.fresh,hne,if_false] at hy;exact h.keep j hj i y hy
 ·simp only [ASt.fresh] at hj ⊢;split
  ·rfl
  ·rename_i hne;simp only [hne,if_false] at hj;exact h.useH j hj
 ·simp only [ASt.fresh] at hb;by_cases hj:j=k
  ·simp only [hj,if_true] at hb;cases i with
   | zero=>simp at hb;subst hb;exact Blk.within_mono hu hwi
   | succ i=>simp at hb
  ·simp only [hj,if_false] at hb;exact Blk.within_mono hu (h.useB j i blk' hb)
theorem at_m {k i:Nat}{x x':MB}(hx:m k i=some x) (ha:Adv x x'):∀ j l y',MM.at m k i x' j l=some y'→∃ y,m j l=some y∧Adv y y':=by
 intro j l y' hy;unfold MM.at at hy;split at hy
 ·rename_i hjl;obtain ⟨rfl,rfl⟩:=hjl;cases hy;exact ⟨x,hx,ha⟩
 ·exact ⟨y',hy,.inl rfl⟩
theorem at_own {k i:Nat}{x x':MB}(hx:m k i=some x) (hb':x'.nil=false→(x.nil=false∧x'.b=x.b)∨w.heap.size≤x'.b):∀ b,b<w.heap.size→Own (MM.at m k i x') b→Own m b:=by
 intro b hb ⟨j,l,y,hy,hn,hyb⟩;unfold MM.at at hy;split at hy
 ·cases hy;rcases hb' hn with ⟨h1,h2⟩ | h2
  ·exact ⟨k,i,x,hx,h1,by omega⟩
  ·omega
 ·exact ⟨j,l,y,hy,hn,hyb⟩
theorem Rel.carryAt {k i:Nat}{x x':MB}(hx:m k i=some x) (ha:Adv x x') (hw:∀ b,b<w.heap.size→(x.nil=false→b≠x.b)→w'.heap[b]?=w.heap[b]?) (hz:w.heap.size≤w'.heap.size)
  (hs:∀ b e n,w.shape? b=some (e,n)→w'.shape? b=some (e,n))
  (hb':x'.nil=false→(x.nil=false∧x'.b=x.b)∨w.heap.size≤x'.b) {v:V}{c:Value}(hv:VRel w (Forb Γ m) m v c):VRel w' (Forb Γ (MM.at m k i x')) (MM.at m k i x') v c:=
 hv.mono (fun b hb hn=>⟨hw b hb fun hnil e=>hn (.inr ⟨k,i,x,hx,hnil,e.symm⟩),fun hf=>hn (hf.imp id (at_own hx hb' b hb))⟩) hz hs (at_m hx ha)
theorem Rel.at [Glob] (h:Rel Γ m s a w) (k i:Nat) {blk:Blk}{x:MB}(hbl:(s.heap k)[i]?=some blk) (hx:m k i=some x) (x':MB) (blk':Blk) (ha:Adv x x')
  (hw:∀ b,b<w.heap.size→(x.nil=false→b≠x.b)→w'.heap[b]?=w.heap[b]?) (hz:w.heap.size≤w'.heap.size)
  (hs:∀ b e n,w.shape? b=some (e,n)→w'.shape? b=some (e,n)) (ho:w'.os=w.os) (ht:TapeW w' w) (hp:w'.output=w.output)
  (hb':x'.nil=false→(x.nil=false∧x'.b=x.b)∨(w.heap.size≤x'.b∧x'.b<w'.heap.size))
  (hwi:blk'.within s.used) (hB:BRel w' (Forb Γ (MM.at m k i x')) (MM.at m k i x') x' blk'):Rel Γ (MM.at m k i x') (s.at k i blk') a w':=by
 have hsz:=h.ext.size;have hb2:x'.nil=false→(x.nil=false∧x'.b=x.b)∨w.heap.size≤x'.b:=fun hn=>(hb' hn).imp id (·.1);have hil:i<(s.heap k).length:=by
  rcases Nat.lt_or_ge i (s.heap k).length with h' | h'
  ·exact h'
  ·rw [List.getElem?_eq_none h'] at hbl;cases hbl
 have hb0:∀ (j l:Nat) (blk2:Blk),((s.at k i blk').heap j)[l]?=some blk2→¬ (j=k∧l=i)→(s.heap j)[l]?=some blk2:=fun j l blk2 hb hjl=>by
  simp only [ASt.at] at hb;by_cases hj:j=k
  ·subst hj;have hli:l≠i:=fun e=>hjl ⟨rfl,e⟩;simpa [Ne.symm hli] using hb
  ·simpa [hj] using hb
 refine h.change (fun b hb hno=>hw b hb fun hnil e=>hno ⟨k,i,x,hx,hnil,e.symm⟩) hz hs ho ht hp (fun j hj l y' hy=>at_m hx ha j l y' hy) (at_own hx hb2)
  rfl (fun _ hj=>hj) (fun j l=>?_) (fun j l blk2 hb=>?_) (fun j l y j' l' y' hy hy' hn hn' hyy=>?_) (fun j l y hy hn=>?_) (fun j hj l y hy=>?_) (fun j hj=>?_) (fun j l blk2 hb=>?_)
 ·simp only [MM.at,ASt.at];by_cases hjl:j=k∧l=i
  ·obtain ⟨rfl,rfl⟩:=hjl;simp [hil]
  ·simp only [hjl,if_false];by_cases hj:j=k
   ·simp only [hj,if_true,List.length_set];exact h.dom k l
   ·simp only [hj,if_false];exact h.dom j l
 ·by_cases hjl:j=k∧l=i
  ·obtain ⟨rfl,rfl⟩:=hjl;simp only [ASt.at,if_true] at hb;simp [hil] at hb;subst hb;exact ⟨x',by simp [MM.at],.inr hB⟩
  ·have hb0:=hb0 j l blk2 hb hjl;obtain ⟨y,hy,_⟩:=h.heap j l blk2 hb0;exact ⟨y,by simp [MM.at,hjl,hy],.inl ⟨hb0,hy,fun hn=>hw _ (h.fr j l y hy hn).2.1 fun hnil e=>hjl (h.inj j l y k i x hy hx hn hnil e)⟩⟩
 ·unfold MM.at at hy hy';by_cases hjl:j=k∧l=i<;>by_cases hjl':j'=k∧l'=i
  ·exact ⟨by omega,by omega⟩
  ·simp only [hjl,hjl',and_self,if_true,if_false] at hy hy';cases hy;have h3:=(h.fr j' l' y' hy' hn').2.1;rcases hb2 hn with ⟨h1,h2⟩ | h2
   ·exact absurd (h.inj j' l' y' k i x hy' hx hn' h1 (by omega)) hjl'
   ·omega
  ·simp only [hjl,hjl',and_self,if_true,if_false] at hy hy';cases hy';have h3:=(h.fr j l y hy hn).2.1;rcases hb2 hn' with ⟨h1,h2⟩ | h2
   ·exact absurd (h.inj j l y k i x hy hx hn h1 (by omega)) hjl
   ·omega
  ·simp only [hjl,hjl',if_false] at hy hy';exact h.inj j l y j' l' y' hy hy' hn hn' hyy
 ·unfold MM.at at hy;split at hy
  ·cases hy;rcases hb' hn with ⟨h1,h2⟩ | ⟨h2,h3⟩
   ·obtain ⟨g1,g2,g3⟩:=h.fr k i x hx h1;rw [h2];exact ⟨g1,by omega,g3⟩
   ·refine ⟨fun hf=>?_,h3,.inr (by omega)⟩;have:=(h.frw _ hf).1;omega
  ·obtain ⟨g1,g2,g3⟩:=h.fr j l y hy hn;exact ⟨g1,by omega,g3⟩
 ·unfold MM.at at hy;split at hy
  ·rename_i hjl;obtain ⟨rfl,rfl⟩:=hjl;cases hy;obtain ⟨x0,h1,h2⟩:=h.keep j hj l x hx;exact ⟨x0,h1,h2.trans ha⟩
  ·exact h.keep j hj l y hy
 ·refine h.useH j fun e=>hj ?_;simp only [ASt.at];split<;>simp [e]
 ·by_cases hjl:j=k∧l=i
  ·obtain ⟨rfl,rfl⟩:=hjl;simp only [ASt.at,if_true] at hb;simp [hil] at hb;subst hb;exact hwi
  ·exact h.useB j l blk2 (hb0 j l blk2 hb hjl)
end
end Go.Sx
namespace Go.Sx
open Go
theorem VRel.oneCell {w:World}{F:Nat→Prop}{m:MM}{v:V}{c:Value}(h:VRel w F m v c) (h1:v.one=true) (hd:v≠.dead):c.oneCell'=true:=by
 cases h with
 | dead=>exact absurd rfl hd
 | bp s o c hc h=>obtain ⟨a,rfl⟩:=hc;rfl
 | pel s i r o n c hc h=>obtain ⟨a,rfl⟩:=hc;rfl
 | osl s i o l n c hc h=>obtain ⟨a,l',k,rfl⟩:=hc;rfl
 | omap s i c hc h=>obtain ⟨r,rfl⟩:=hc;rfl
 | oslc s i o l n cap c hc h=>obtain ⟨a,l',k,rfl⟩:=hc;rfl
 | agg=>simp [V.one] at h1
 | tup=>simp [V.one] at h1
 | _=>rfl
mutual
def V.norm:V→V
 | .nils=>.sl [] false
 | .sl rows _=>.sl rows false
 | .agg cs=>.agg (normL cs)
 | .tup vs=>.tup (normL vs)
 | .bp s o=>.bp s o
 | .pel s i r o n=>.pel s i r o n
 | .osl s i o l n=>.osl s i o l n
 | .omap s i=>.omap s i
 | .oslc s i o l n cap=>.oslc s i o l n cap
 | .fn f caps=>.fn f caps
 | .iface t v=>.iface t v
 | .dead=>.dead
 | .bool b=>.bool b
 | .int k n=>.int k n
 | .str s=>.str s
 | .nilp=>.nilp
 | .ro row o=>.ro row o
 | .nilf=>.nilf
 | .nili=>.nili
 | .nilm=>.nilm
 | .sle=>.sl [] false
 | .dmap rows=>.dmap rows
def normL:List V→List V
 | []=>[]
 | v::vs=>v.norm::normL vs
end
theorem normL_eq (l:List V):normL l=l.map V.norm:=by
 induction l with
 | nil=>simp [normL]
 | cons v l ih=>simp [normL,ih]
theorem V.norm_one {v:V}(h:v.one=true):v.norm.one=true:=by cases v<;>simp_all [V.norm,V.one]
theorem VRel.norm {w:World}{F:Nat→Prop}{m:MM}{v:V}{c:Value}(h:VRel w F m v c):VRel w F m v.norm c:=by
 induction h with
 | nils=>simp only [V.norm];exact .nilsl false none
 | nilsl full a=>simp only [V.norm];exact .nilsl false a
 | sl rows full sz b base cap c hF hl hm hf hz hd h1 ho1 hc hv ih=>simp only [V.norm];exact .sl rows false sz b base cap c hF hl hm (fun h=>by cases h) hz hd h1 ho1 hc hv
 | agg cs c hl ho h1 hv ih =>
  simp only [V.norm,normL_eq];refine .agg _ c (by simpa using hl) ho (fun j v hj=>?_) (fun j v x hj hx=>?_) <;>
   (simp only [List.getElem?_map,Option.map_eq_some_iff] at hj;obtain ⟨u,hu,rfl⟩:=hj)
  ·exact V.norm_one (h1 j u hu)
  ·exact ih j u x hu hx
 | tup cs c hl hv ih =>
  simp only [V.norm,normL_eq];refine .tup _ c (by simpa using hl) (fun j v x hj hx=>?_);simp only [List.getElem?_map,Option.map_eq_some_iff] at hj;obtain ⟨u,hu,rfl⟩:=hj;exact ih j u x hu hx
 | dead c=>simp only [V.norm];exact .dead c
 | bool b=>simp only [V.norm];exact .bool b
 | int k n=>simp only [V.norm];exact .int k n
 | str s h=>simp only [V.norm];exact .str s h
 | nilp=>simp only [V.norm];exact .nilp
 | bp s o c hc h=>simp only [V.norm];exact .bp s o c hc h
 | pel s i r o n c hc h=>simp only [V.norm];exact .pel s i r o n c hc h
 | ro row o b base c hF hb ho hd h1 ho1 hc hv ih=>simp only [V.norm];exact .ro row o b base c hF hb ho hd h1 ho1 hc hv
 | osl s i o l n c hc h=>simp only [V.norm];exact .osl s i o l n c hc h
 | fn f cs c hl hv ih=>simp only [V.norm];exact .fn f cs c hl hv
 | nilf=>simp only [V.norm];exact .nilf
 | iface t v c h ih=>simp only [V.norm];exact .iface t v c h
 | nili=>simp only [V.norm];exact .nili
 | omap s i c hc h=>simp only [V.norm];exact .omap s i c hc h
 | oslc s i o l n cap c hc h=>simp only [V.norm];exact .oslc s i o l n cap c hc h
 | nilm=>simp only [V.norm];exact .nilm
 | dmap rows b clock ents c hF hh hs hd hc hv ih=>simp only [V.norm];exact .dmap rows b clock ents c hF hh hs hd hc hv
 | sle a cap h =>
  simp only [V.norm];rcases h with rfl | ⟨h1,h2⟩
  ·exact .nilsl false (some a)
  ·obtain ⟨b,o,spot⟩:=a;simp only at h1;subst h1;exact .sl [] false 0 b o cap (fun _ _=>.bool true) (fun h=>absurd rfl h) (Nat.zero_le _) h2 (fun h=>by cases h) (by simp) (by simp) (by simp) (by simp) (by simp) (by simp)
inductive TK where
 | int (k:IntKind) | bool | str | ptr (e:Nat) | sl (e:Nat) | arr (n e:Nat) | st (fs:List (Nat×Nat)) | map (k e:Nat) | fn | iface | other
structure TI where
 k:TK
 sz:Nat
 bytes:Nat
 zero:List V
def TK.agg:TK→Bool
 | .st _=>true
 | .arr _ _=>true
 | _=>false
def tkOf:TypeDesc→TK
 | .int k=>.int k
 | .bool=>.bool
 | .string=>.str
 | .pointer e=>.ptr e
 | .slice e=>.sl e
 | .array n e=>.arr n e
 | .struct fs=>.st (fs.toList.map fun f=>(f.offset,f.type))
 | .map k e=>.map k e
 | .func _ _ _=>.fn
 | .interface _=>.iface
 | _=>.other
def constV:Value→V
 | .bool b=>.bool b
 | .int k n=>.int k n
 | .string s=>match Nat.ble s.size maxLen with | true=>.str s.data.toList | false=>.dead
 | .pointer a=>match a with | none=>.nilp | some _=>.dead
 | .slice a l c=>match a with | none=>(match Nat.beq (l+c) 0 with | true=>.nils | false=>.dead) | some _=>.dead
 | .map r=>match r with | none=>.nilm | some _=>.dead
 | .nilFunc=>.nilf
 | .nilIface=>.nili
 | .func fn a b=>match fn,a.toList,b.toList with | .func f,[],[]=>.fn f [] | _,_,_=>.dead
 | _=>.dead
theorem constV_rel (w:World) (F:Nat→Prop) (m:MM) (c:Value):VRel w F m (constV c) c:=by
 cases c<;>simp only [constV]
 case bool=>exact .bool _
 case int=>exact .int _ _
 case string s =>
  split
  ·rename_i h;have h':=Nat.le_of_ble_eq_true h;have hs:s=⟨s.data.toList.toArray⟩:=by cases s;simp
   rw [hs];refine .str _ ?_;have:s.size=s.data.toList.length:=by cases s;simp [ByteArray.size]
   simp only [Array.toArray_toList];omega
  ·exact .dead _
 case pointer a=>cases a;exact .nilp;exact .dead _
 case slice a l k =>
  cases a with
  | none =>
   simp only;split
   ·rename_i h;have h0:=Nat.eq_of_beq_eq_true h;obtain ⟨rfl,rfl⟩:l=0∧k=0:=by omega
    exact .nils
   ·exact .dead _
  | some _=>exact .dead _
 case map r=>cases r;exact .nilm;exact .dead _
 case nilFunc=>exact .nilf
 case nilIface=>exact .nili
 case func fn a b =>
  split
  ·rename_i f h1 h2;have ha:a=#[]:=by cases a;simp_all
   have hb:b=#[]:=by cases b;simp_all
   subst ha hb;exact .fn f [] [] rfl (fun j v x hj=>by simp at hj)
  ·exact .dead _
 all_goals exact .dead _
theorem constV_sites (c:Value):(constV c).sites=[]:=by
 cases c<;>simp only [constV]
 case string s=>split<;>simp [V.sites]
 case pointer a=>cases a<;>simp [V.sites]
 case slice a l k=>cases a<;>simp [V.sites];split<;>simp [V.sites]
 case map r=>cases r<;>simp [V.sites]
 case func fn a b=>split<;>simp [V.sites,sitesL]
 all_goals simp [V.sites]
structure TOK (P:Program) (t:Nat) (ti:TI):Prop where
 ex:∃ d i z,P.underlying t=some d∧P.info? t=some i∧tkOf d=ti.k∧i.size=ti.sz∧i.bytes=ti.bytes∧i.zero=some z∧ti.zero=z.cells.toList.map constV∧z.cells.size=ti.sz ∧
  (z.cells.all fun c=>c.oneCell')=true∧(ti.zero.all V.one)=true
def look {α:Type}:List (Nat×α)→Nat→Option α
 | [],_=>none
 | (k,v)::l,t=>match Nat.beq k t with | true=>some v | false=>look l t
def evalO [Glob] (env:Nat→V):Operand→V
 | .tmp t=>env t
 | .const v=>constV v
 | .global _=>.dead
 | .func f=>.fn f []
theorem Rel.evalO [Glob] {Γ:Ctx}{m:MM}{s:ASt}{a:Act}{w:World}(h:Rel Γ m s a w) (x:Operand):VRel w (Forb Γ m) m (Sx.evalO s.env x) (a.eval x):=by
 cases x with
 | tmp t=>exact h.env t
 | const v=>exact constV_rel _ _ _ v
 | global g=>exact .dead _
 | func f=>exact .fn f [] [] rfl (fun j v x hj=>by simp at hj)
inductive Up where
 | fresh (k:Nat) (blk:Blk)
 | upd (k i:Nat) (blk:Blk)
 | all (k:Nat) (l:List Blk)
def ASt.up (s:ASt):Up→ASt
 | .fresh k blk=>s.fresh k blk
 | .upd k i blk=>s.at k i blk
 | .all k l=>{ env:=s.env,heap:=fun j=>if j=k then l else s.heap j,used:=s.used }
def ASt.ups (s:ASt) (us:List Up):ASt:=us.foldl ASt.up s
def Up.made:List Up→List Nat
 | []=>[]
 | .fresh k _::us=>k::Up.made us
 | .upd _ _ _::us=>Up.made us
 | .all _ _::us=>Up.made us
abbrev Kont:=V→List Up→List Nat→Prop
def GoodV [Glob] (P:Program) (N:NB) (o:Oper) (ρ:Operand→V) (h:Nat→List Blk) (v:V) (us:List Up) (rd:List Nat):Prop:=
 ∀ (Γ:Ctx) (m:MM) (s:ASt) (a:Act) (w:World),Γ.N=N→Rel Γ m s a w→(∀ x∈o.op.operands,evalO s.env x=ρ x)→(∀ k∈rd,s.heap k=h k)→(∀ k∈Up.made us,s.used k=false) →
  ∃ nx c w' m',(execOp a.eval o).run P w=.ok nx w'∧(nx=.value c∨(nx=.skip∧c=undef))∧Rel Γ m' (s.ups us) a w'∧VRel w' (Forb Γ m') m' v c∧∀ k∈v.sites,(s.ups us).used k=true
theorem GoodV.still [Glob] {P:Program}{N:NB}{o:Oper}{ρ:Operand→V}{h:Nat→List Blk}{v:V}{rd:List Nat}
  (g:∀ (Γ:Ctx) (m:MM) (s:ASt) (a:Act) (w:World),Rel Γ m s a w→(∀ x∈o.op.operands,evalO s.env x=ρ x)→(∀ k∈rd,s.heap k=h k) →
   ∃ c,(execOp a.eval o).run P w=.ok (.value c) w∧VRel w (Forb Γ m) m v c∧∀ k∈v.sites,s.used k=true):GoodV P N o ρ h v [] rd:=by
 intro Γ m s a w _ hr ho hh _;obtain ⟨c,h1,h2,h3⟩:=g Γ m s a w hr ho hh;exact ⟨_,c,w,m,h1,.inl rfl,hr,h2,h3⟩
theorem Rel.sitesO [Glob] {Γ:Ctx}{m:MM}{s:ASt}{a:Act}{w:World}(h:Rel Γ m s a w) (x:Operand):∀ k∈(Sx.evalO s.env x).sites,s.used k=true:=by
 cases x with
 | tmp t=>exact h.useE t
 | const v=>intro k hk;rw [show Sx.evalO s.env (.const v)=constV v from rfl,constV_sites] at hk;cases hk
 | global g=>intro k hk;simp [Sx.evalO,V.sites] at hk
 | func f=>intro k hk;simp [Sx.evalO,V.sites,sitesL] at hk
def RowAt (w:World) (F:Nat→Prop) (m:MM) (row:List V) (b base:Nat):Prop:=
 ∀ (j:Nat) v,row[j]?=some v→v.one=true∧∃ c,w.cell? ⟨b,base+j,none⟩=some c∧c.oneCell'=true∧VRel w F m v c
theorem RowsOK.rowAt {w:World}{F:Nat→Prop}{m:MM}{x:MB}{sz:Nat}{rows:List (List V)}{ks:Option (List Nat)}(h:RowsOK w F m x sz rows ks) {r:Nat}{row:List V}(hr:rows[r]?=some row) :
  RowAt w F m row x.b (x.base+r*x.sz):=fun j v hj=>by
 obtain ⟨h1,h2,c,h3,h4,h5⟩:=h.cell r row j v hr hj;exact ⟨h1,c,by rw [h.hsz];exact h3,h4,h5⟩
def part (ti:TI) (row:List V) (o:Nat):Option V:=
 match ti.k.agg with
 | true=>(match Nat.ble (o+ti.sz) row.length with | true=>some (.agg ((row.drop o).take ti.sz)) | false=>none)
 | false=>row[o]?
theorem part_sites {ti:TI}{row:List V}{o:Nat}{v:V}(hp:part ti row o=some v):∀ k∈v.sites,∃ u∈row,k∈u.sites:=by
 unfold part at hp;intro k hk;split at hp
 ·split at hp
  ·cases hp;simp only [V.sites,sitesL_eq,List.mem_flatMap] at hk;obtain ⟨u,hu,hk⟩:=hk;exact ⟨u,List.mem_of_mem_drop (List.mem_of_mem_take hu),hk⟩
  ·cases hp
 ·exact ⟨v,List.mem_of_getElem? hp,hk⟩
theorem Rel.rowSites [Glob] {Γ:Ctx}{m:MM}{s:ASt}{a:Act}{w:World}(h:Rel Γ m s a w) {k i r:Nat}{sz:Nat}{rows:List (List V)}{ks:Option (List Nat)}{row:List V}{x:MB}
  (hh:(s.heap k)[i]?=some (.rows sz rows ks)) (hB:RowsOK w (Forb Γ m) m x sz rows ks) (hr:rows[r]?=some row):∀ u∈row,∀ q∈u.sites,s.used q=true:=by
 intro u hu q hq;obtain ⟨j,hj⟩:=List.getElem?_of_mem hu;have hw:=h.useB k i _ hh;cases ks with
 | none=>exact hw r row j u hr hj q hq
 | some l=>exact hw q ((hB.cell r row j u hr hj).2.1 l rfl q hq)
theorem add_lit (b o n:Nat):(⟨b,o,none⟩:Addr).add n=⟨b,o+n,none⟩:=by unfold Addr.add;split<;>simp_all
theorem RowAt.list {w:World}{F:Nat→Prop}{m:MM}{row:List V}{b base:Nat}(h:RowAt w F m row b base) :
  ∃ cs:List Value,cs.length=row.length∧(∀ (j:Nat) c,cs[j]?=some c→w.cell? ⟨b,base+j,none⟩=some c)∧(∀ x∈cs,x.oneCell'=true)∧∀ (j:Nat) v c,row[j]?=some v→cs[j]?=some c→VRel w F m v c:=by
 refine ⟨(List.range row.length).map fun j=>(w.cell? ⟨b,base+j,none⟩).getD undef,by simp,fun j c hc=>?_,fun x hx=>?_,fun j v c hv hc=>?_⟩
 ·simp only [List.getElem?_map,Option.map_eq_some_iff] at hc;obtain ⟨j',hj',rfl⟩:=hc;obtain ⟨hj1,hj2⟩:=List.getElem?_eq_some_iff.1 hj';simp only [List.getElem_range] at hj2;subst hj2;simp only [List.length_range] at hj1;obtain ⟨h1,c,h2,_⟩:=h j _ (List.getElem?_eq_getElem hj1);rw [h2];rfl
 ·obtain ⟨j,hj,rfl⟩:=List.mem_map.1 hx;have hj1:j<row.length:=List.mem_range.1 hj;obtain ⟨h1,c,h2,h3,_⟩:=h j _ (List.getElem?_eq_getElem hj1);rw [h2];exact h3
 ·simp only [List.getElem?_map,Option.map_eq_some_iff] at hc;obtain ⟨j',hj',rfl⟩:=hc;obtain ⟨hj1,hj2⟩:=List.getElem?_eq_some_iff.1 hj';simp only [List.getElem_range] at hj2;subst hj2;simp only [List.length_range] at hj1;obtain ⟨h1,c,h2,_,h4⟩:=h j v hv;rw [h2];exact h4
theorem run_isAgg {P:Program}{t:Nat}{ti:TI}(hT:TOK P t ti) (w:World):(isAgg t).run P w=.ok ti.k.agg w:=by
 obtain ⟨d,i,z,h1,h2,h3,_⟩:=hT;simp only [isAgg,Sem.run_bind,run_underlying h1,Result.andThen_ok];rw [←h3];cases d<;>rfl
theorem run_sizeOf {P:Program}{t:Nat}{ti:TI}(hT:TOK P t ti) (w:World):(sizeOf t).run P w=.ok ti.sz w:=by
 obtain ⟨d,i,z,h1,h2,h3,h4,_⟩:=hT;simp [sizeOf,typeInfo,h2,h4]
theorem run_loadVar' {P:Program}{t:Nat}{ti:TI}(hT:TOK P t ti) {w:World}{F:Nat→Prop}{m:MM}{row:List V}{b base o:Nat}{v:V}
  (hr:RowAt w F m row b base) (hp:part ti row o=some v) :
  ∃ c,(loadVar t ⟨b,base+o,none⟩).run P w=.ok c w∧VRel w F m v c:=by
 simp only [loadVar,Sem.run_bind,run_isAgg hT,Result.andThen_ok];unfold part at hp;cases ha:ti.k.agg with
 | true =>
  simp only [ha] at hp;split at hp
  ·rename_i hle;have hle:=Nat.le_of_ble_eq_true hle;cases hp;obtain ⟨cs,h1,h2,h3,h4⟩:=hr.list;have hlen:((cs.drop o).take ti.sz).length=ti.sz:=by simp;omega
   have hrun:=run_loadCells_list (P:=P) w ⟨b,base+o,none⟩ ((cs.drop o).take ti.sz) (fun j c hj=>by
    rw [add_lit]
    have hj':cs[o+j]?=some c:=by
     rw [List.getElem?_take] at hj
     split at hj
     ·simpa [List.getElem?_drop] using hj
     ·cases hj
    have:=h2 (o+j) c hj'
    rwa [Nat.add_assoc])
   rw [hlen] at hrun;refine ⟨.agg ((cs.drop o).take ti.sz).toArray,by simp [run_sizeOf hT,hrun],?_⟩;refine .agg _ _ (by simp [h1]) (fun x hx=>h3 x (List.mem_of_mem_drop (List.mem_of_mem_take hx))) (fun j u hj=>?_) (fun j u x hj hx=>?_)
   ·rw [List.getElem?_take] at hj;split at hj
    ·rw [List.getElem?_drop] at hj;exact (hr _ _ hj).1
    ·cases hj
   ·rw [List.getElem?_take] at hj hx;split at hj
    ·rename_i hlt;rw [if_pos hlt] at hx;rw [List.getElem?_drop] at hj hx;exact h4 _ _ _ hj hx
    ·cases hj
  ·cases hp
 | false =>
  simp only [ha] at hp;obtain ⟨h1,c,h2,h3,h4⟩:=hr o v hp;exact ⟨c,by simp [h2],h4⟩
def rowAt (rows:List (List V)) (n:Nat) (K:List V→Prop):Prop:=∃ r,rows[n]?=some r∧K r
theorem rowAt_of {rows:List (List V)}{n:Nat}{r:List V}{K:List V→Prop}(h:rows[n]?=some r) (hk:K r):rowAt rows n K:=⟨r,h,hk⟩
theorem rowAt_elim {rows:List (List V)}{n:Nat}{K:List V→Prop}(h:rowAt rows n K):∃ r,rows[n]?=some r∧K r:=h
attribute [irreducible] rowAt
def runLoad (T:List (Nat×TI)) (t:Nat) (h:Nat→List Blk) (a:V) (K:Kont):Prop:=
 match look T t with
 | none=>False
 | some ti =>
  match a with
  | .bp s o=>match h s with
   | [.rows _ [row] _]=>(match part ti row o with | some v=>K v [] [s] | none=>False)
   | _=>False
  | .pel s i r o n=>match (h s)[i]? with
   | some (.rows _ rows _)=>n=rows.length∧rowAt rows r fun row=>(match part ti row o with | some v=>K v [] [s] | none=>False)
   | _=>False
  | .ro row o=>(match part ti row o with | some v=>K v [] [] | none=>False)
  | _=>False
theorem VRel.ro_inv {w:World}{F:Nat→Prop}{m:MM}{row:List V}{o:Nat}{c:Value}(h:VRel w F m (.ro row o) c) :
  ∃ b base,c=.pointer (some ⟨b,base+o,none⟩)∧¬ F b∧b<w.heap.size∧o≤row.length∧RowAt w F m row b base∧∀ (j:Nat) v,row[j]?=some v→v.sites=[]:=by
 cases h with
 | ro row o b base c hF hb ho hd h1 ho1 hc hv=>exact ⟨b,base,rfl,hF,hb,ho,fun j v hj=>⟨h1 j v hj,c j,hc j v hj,ho1 j v hj,hv j v hj⟩,hd⟩
theorem Rel.bp_inv [Glob] {Γ:Ctx}{m:MM}{s:ASt}{a:Act}{w:World}(h:Rel Γ m s a w) {k o:Nat}{sz:Nat}{row:List V}{ks:Option (List Nat)}{c:Value}
  (hv:VRel w (Forb Γ m) m (.bp k o) c) (hh:s.heap k=[.rows sz [row] ks]) :
  ∃ x,m k 0=some x∧x.nil=false∧c=.pointer (some ⟨x.b,x.base+o,none⟩)∧RowsOK w (Forb Γ m) m x sz [row] ks:=by
 obtain ⟨x,hx,hB⟩:=h.heap k 0 (.rows sz [row] ks) (by rw [hh];rfl);have hB:RowsOK w (Forb Γ m) m x sz [row] ks:=hB;cases hv with
 | bp k o c hc hv =>
  obtain ⟨h1,h2⟩:=hv x hx;obtain ⟨h3,h4⟩:=h2 (by rw [hB.hn];rfl);exact ⟨x,hx,h3,h4,hB⟩
theorem Rel.pel_inv [Glob] {Γ:Ctx}{m:MM}{s:ASt}{a:Act}{w:World}(h:Rel Γ m s a w) {k i r o n:Nat}{sz:Nat}{rows:List (List V)}{ks:Option (List Nat)}{c:Value}
  (hv:VRel w (Forb Γ m) m (.pel k i r o n) c) (hh:(s.heap k)[i]?=some (.rows sz rows ks)) (hn:n=rows.length) :
  ∃ x,m k i=some x∧x.nil=false∧c=.pointer (some ⟨x.b,x.base+r*x.sz+o,none⟩)∧RowsOK w (Forb Γ m) m x sz rows ks:=by
 obtain ⟨x,hx,hB⟩:=h.heap k i (.rows sz rows ks) hh;have hB:RowsOK w (Forb Γ m) m x sz rows ks:=hB;cases hv with
 | pel k i r o n c hc hv =>
  obtain ⟨h1,h2⟩:=hv x hx;obtain ⟨h3,h4⟩:=h2 (by rw [hB.hn,hn]);exact ⟨x,hx,h3,h4,hB⟩
def TableOK (P:Program) (T:List (Nat×TI)):Prop:=∀ t ti,look T t=some ti→TOK P t ti
theorem runLoad_ok [Glob] {P:Program}{N:NB}{T:List (Nat×TI)}(hT:TableOK P T) {o:Oper}{t:Nat}{x:Operand}(hop:o.op=.load t x) {ρ:Operand→V}{h:Nat→List Blk}{K:Kont}
  (hk:runLoad T t h (ρ x) K):∃ v us rd,GoodV P N o ρ h v us rd∧K v us rd:=by
 unfold runLoad at hk;split at hk
 ·exact hk.elim
 ·rename_i ti hti;have hT:=hT t ti hti;split at hk
  ·rename_i s0 o0 hx;split at hk
   ·rename_i sz row ks hh;split at hk
    ·rename_i v hv;refine ⟨v,[],[s0],GoodV.still fun Γ m s a w hr ho hg=>?_,hk⟩;have hvx:=hr.evalO x;rw [ho x (by simp [hop,Op.operands]),hx] at hvx;obtain ⟨y,hy,hn,hc,hB⟩:=hr.bp_inv hvx (by rw [hg s0 (by simp)];exact hh);have hra:=hB.rowAt (r:=0) (row:=row) rfl;simp only [Nat.zero_mul,Nat.add_zero] at hra;obtain ⟨c,h1,h2⟩:=run_loadVar' hT hra hv;refine ⟨c,by simp [execOp,hop,hc,Instr.loadAt,Instr.sureAddr,h1],h2,fun k hk=>?_⟩;obtain ⟨u,hu,hk⟩:=part_sites hv k hk;exact hr.rowSites (k:=s0) (i:=0) (r:=0) (by rw [hg s0 (by simp),hh];rfl) hB rfl u hu k hk
    ·exact hk.elim
   ·exact hk.elim
  ·rename_i s0 i r o0 n hx;split at hk
   ·rename_i sz rows ks hh;obtain ⟨hn,hk⟩:=hk;obtain ⟨row,hrow,hk⟩:=rowAt_elim hk;split at hk
    ·rename_i v hv;refine ⟨v,[],[s0],GoodV.still fun Γ m s a w hr ho hg=>?_,hk⟩;have hvx:=hr.evalO x;rw [ho x (by simp [hop,Op.operands]),hx] at hvx;obtain ⟨y,hy,hnil,hc,hB⟩:=hr.pel_inv hvx (by rw [hg s0 (by simp)];exact hh) hn;obtain ⟨c,h1,h2⟩:=run_loadVar' hT (hB.rowAt hrow) hv;refine ⟨c,by simp [execOp,hop,hc,Instr.loadAt,Instr.sureAddr,h1],h2,fun k hk=>?_⟩;obtain ⟨u,hu,hk⟩:=part_sites hv k hk;exact hr.rowSites (by rw [hg s0 (by simp)];exact hh) hB hrow u hu k hk
    ·exact hk.elim
   ·exact hk.elim
  ·rename_i row o0 hx;split at hk
   ·rename_i v hv;refine ⟨v,[],[],GoodV.still fun Γ m s a w hr ho hg=>?_,hk⟩;have hvx:=hr.evalO x;rw [ho x (by simp [hop,Op.operands]),hx] at hvx;obtain ⟨b,base,hc,_,_,_,hra,hns⟩:=hvx.ro_inv;obtain ⟨c,h1,h2⟩:=run_loadVar' hT hra hv;refine ⟨c,by simp [execOp,hop,hc,Instr.loadAt,Instr.sureAddr,h1],h2,fun k hk=>?_⟩;obtain ⟨u,hu,hk⟩:=part_sites hv k hk;obtain ⟨j,hj⟩:=List.getElem?_of_mem hu;rw [hns j u hj] at hk;cases hk
   ·exact hk.elim
  ·exact hk.elim
section
variable {P:Program}{N:NB}{T:List (Nat×TI)}{o:Oper}{h:Nat→List Blk}{K:Kont}{ρ:Operand→V}
theorem good_pure [Glob] {v:V}(g:∀ (Γ:Ctx) (m:MM) (s:ASt) (a:Act) (w:World),Rel Γ m s a w→(∀ x∈o.op.operands,VRel w (Forb Γ m) m (ρ x) (a.eval x)) →
   ∃ c,(execOp a.eval o).run P w=.ok (.value c) w∧VRel w (Forb Γ m) m v c) (hs:∀ k∈v.sites,∃ x∈o.op.operands,k∈(ρ x).sites):GoodV P N o ρ h v [] []:=
 GoodV.still fun Γ m s a w hr ho _=>by
  obtain ⟨c,h1,h2⟩:=g Γ m s a w hr fun x hx=>by rw [←ho x hx];exact hr.evalO x
  refine ⟨c,h1,h2,fun k hk=>?_⟩;obtain ⟨x,hx,hk⟩:=hs k hk;exact hr.sitesO x k (by rw [ho x hx];exact hk)
theorem VRel.int_inv {w:World}{F:Nat→Prop}{m:MM}{k:IntKind}{n:Int}{c:Value}(h:VRel w F m (.int k n) c):c=.int k n:=by cases h;rfl
theorem VRel.bool_inv {w:World}{F:Nat→Prop}{m:MM}{b:Bool}{c:Value}(h:VRel w F m (.bool b) c):c=.bool b:=by cases h;rfl
theorem VRel.str_inv {w:World}{F:Nat→Prop}{m:MM}{s:List UInt8}{c:Value}(h:VRel w F m (.str s) c):c=.string ⟨s.toArray⟩∧s.length≤maxLen:=by
 cases h with
 | str s h=>exact ⟨rfl,h⟩
def runPick (c a b:V) (K:Kont):Prop:=
 match c with
 | .bool r=>(match r with | true=>K a [] [] | false=>K b [] [])
 | _=>False
theorem runMove_ok [Glob] {x:Operand}(hop:o.op=.move x∨o.op=.assign x) (hk:K (ρ x) [] []):∃ v us rd,GoodV P N o ρ h v us rd∧K v us rd:=
 ⟨ρ x,[],[],good_pure (fun Γ m s a w hr ho=>by
  rcases hop with hop | hop<;>exact ⟨a.eval x,by simp [execOp,hop],ho x (by simp [hop,Op.operands])⟩) fun k hk=>⟨x,by rcases hop with hop | hop<;>simp [hop,Op.operands],hk⟩,hk⟩
theorem runPick_ok [Glob] {x y z:Operand}(hop:o.op=.pick x y z) (hk:runPick (ρ x) (ρ y) (ρ z) K):∃ v us rd,GoodV P N o ρ h v us rd∧K v us rd:=by
 unfold runPick at hk;split at hk
 ·rename_i r hx;split at hk
  ·refine ⟨_,[],[],good_pure (fun Γ m s a w hr ho=>?_) (fun k hk=>⟨y,by simp [hop,Op.operands],hk⟩),hk⟩;have h1:=ho x (by simp [hop,Op.operands]);rw [hx] at h1;refine ⟨a.eval y,?_,ho y (by simp [hop,Op.operands])⟩;simp [execOp,hop,h1.bool_inv,asBool]
  ·refine ⟨_,[],[],good_pure (fun Γ m s a w hr ho=>?_) (fun k hk=>⟨z,by simp [hop,Op.operands],hk⟩),hk⟩;have h1:=ho x (by simp [hop,Op.operands]);rw [hx] at h1;refine ⟨a.eval z,?_,ho z (by simp [hop,Op.operands])⟩;simp [execOp,hop,h1.bool_inv,asBool]
 ·exact hk.elim
def intRes (k:IntKind) (n:Int) (K:Kont):Prop:=
 match k with
 | .i64=>(-9223372036854775808≤n∧n≤9223372036854775807)∧K (.int .i64 n) [] []
 | k=>K (.int k (k.wrap n)) [] []
def boolRes (p:Prop) (K:Kont):Prop:=∀ r:Bool,(r=true↔p)→K (.bool r) [] []
theorem wrap_i64 {n:Int}(h:-9223372036854775808≤n∧n≤9223372036854775807):IntKind.i64.wrap n=n:=by
 exact IntWalk.i64_in n h
def runInt (op:BinOp) (k:IntKind) (x y:Int) (K:Kont):Prop:=
 match op with
 | .add=>intRes k (x+y) K
 | .sub=>intRes k (x-y) K
 | .mul=>intRes k (x*y) K
 | .quo=>y≠0∧intRes k (x.tdiv y) K
 | .rem=>y≠0∧K (.int k (x.tmod y)) [] []
 | .and=>K (.int k (k.wrap (BitVec.ofInt k.bits x &&& BitVec.ofInt k.bits y).toNat)) [] []
 | .or=>K (.int k (k.wrap (BitVec.ofInt k.bits x ||| BitVec.ofInt k.bits y).toNat)) [] []
 | .xor=>K (.int k (k.wrap (BitVec.ofInt k.bits x ^^^ BitVec.ofInt k.bits y).toNat)) [] []
 | .eql=>boolRes (x=y) K
 | .neq=>boolRes (x≠y) K
 | .lss=>boolRes (x<y) K
 | .leq=>boolRes (x≤y) K
 | .gtr=>boolRes (y<x) K
 | .geq=>boolRes (y≤x) K
 | .shl=>0≤y∧K (.int k (k.wrap (x*2 ^ (min y.toNat k.bits)))) [] []
 | .shr=>0≤y∧K (.int k (x.fdiv (2 ^ (min y.toNat k.bits)))) [] []
 | _=>False
theorem intRes_ok {k:IntKind}{n:Int}(hk:intRes k n K):K (.int k (k.wrap n)) [] []:=by
 unfold intRes at hk;cases k<;>first
  | exact hk
  | (obtain ⟨h1,h2⟩:=hk;rw [wrap_i64 h1];exact h2)
theorem ok_of [Glob] {v:V}{c:Value}(hv:∀ (w:World) (F:Nat→Prop) (m:MM),VRel w F m v c) (hs:v.sites=[]) (g:∀ (Γ:Ctx) (m:MM) (s:ASt) (a:Act) (w:World),Rel Γ m s a w→(∀ x∈o.op.operands,VRel w (Forb Γ m) m (ρ x) (a.eval x))→(execOp a.eval o).run P w=.ok (.value c) w) (hk:K v [] []) :
  ∃ v us rd,GoodV P N o ρ h v us rd∧K v us rd:=
 ⟨v,[],[],good_pure (fun Γ m s a w hr ho=>⟨c,g Γ m s a w hr ho,hv _ _ _⟩) (by simp [hs]),hk⟩
theorem runInt_ok [Glob] {op:BinOp}{t t':Nat}{x y:Operand}{k k':IntKind}{n l:Int}(hop:o.op=.binOp op t x y t') (hx:ρ x=.int k n) (hy:ρ y=.int k' l) (hkk:k=k'∨op=.shl∨op=.shr) (hk:runInt op k n l K) :
  ∃ v us rd,GoodV P N o ρ h v us rd∧K v us rd:=by
 have run:∀ {c:Value},(∀ w:World,(binOp op t (.int k n) (.int k' l)).run P w=.ok c w)→∀ (Γ:Ctx) (m:MM) (s:ASt) (a:Act) (w:World),Rel Γ m s a w→(∀ x∈o.op.operands,VRel w (Forb Γ m) m (ρ x) (a.eval x))→(execOp a.eval o).run P w=.ok (.value c) w:=by
  intro c hc Γ m s a w hr ho;have h1:=ho x (by simp [hop,Op.operands]);have h2:=ho y (by simp [hop,Op.operands]);rw [hx] at h1;rw [hy] at h2;have h1:=h1.int_inv;have h2:=h2.int_inv;have hg:∀ w:World,(eqGuard op t x y (.int k n) (.int k' l)).run P w=.ok () w:=fun w=>by
   unfold eqGuard;cases op<;>rfl
  simp [execOp,hop,h1,h2,hg,hc]
 have kind:∀ {r:Bool},∀ (w:World) (F:Nat→Prop) (m:MM),VRel w F m (.bool r) (.bool r):=fun w F m=>.bool _;have kindi:∀ {q:Int},∀ (w:World) (F:Nat→Prop) (m:MM),VRel w F m (.int k q) (.int k q):=fun w F m=>.int _ _;unfold runInt at hk;cases op<;>simp only at hk
 case add=>obtain rfl:=hkk.resolve_right (by simp);exact ok_of kindi rfl (run fun w=>by simp [binOp,Op.intArith]) (intRes_ok hk)
 case sub=>obtain rfl:=hkk.resolve_right (by simp);exact ok_of kindi rfl (run fun w=>by simp [binOp,Op.intArith]) (intRes_ok hk)
 case mul=>obtain rfl:=hkk.resolve_right (by simp);exact ok_of kindi rfl (run fun w=>by simp [binOp,Op.intArith]) (intRes_ok hk)
 case quo=>obtain rfl:=hkk.resolve_right (by simp);exact ok_of kindi rfl (run fun w=>by simp [binOp,Op.intDiv,hk.1]) (intRes_ok hk.2)
 case rem=>obtain rfl:=hkk.resolve_right (by simp);exact ok_of kindi rfl (run fun w=>by simp [binOp,Op.intDiv,hk.1]) hk.2
 case and=>obtain rfl:=hkk.resolve_right (by simp);exact ok_of kindi rfl (run fun w=>by simp [binOp,Op.intBits]) hk
 case or=>obtain rfl:=hkk.resolve_right (by simp);exact ok_of kindi rfl (run fun w=>by simp [binOp,Op.intBits]) hk
 case xor=>obtain rfl:=hkk.resolve_right (by simp);exact ok_of kindi rfl (run fun w=>by simp [binOp,Op.intBits]) hk
 case shl=>exact ok_of kindi rfl (run fun w=>by simp [binOp,Op.shift,show ¬ l<0 by omega]) hk.2
 case shr=>exact ok_of kindi rfl (run fun w=>by simp [binOp,Op.shift,show ¬ l<0 by omega]) hk.2
 case eql=>obtain rfl:=hkk.resolve_right (by simp);exact ok_of kind rfl (run fun w=>by simp [binOp,Op.intCmp]) (hk (n == l) (by simp))
 case neq=>obtain rfl:=hkk.resolve_right (by simp);exact ok_of kind rfl (run fun w=>by simp [binOp,Op.intCmp]) (hk (n != l) (by simp))
 case lss=>obtain rfl:=hkk.resolve_right (by simp);exact ok_of kind rfl (run fun w=>by simp [binOp,Op.intCmp]) (hk (decide (n<l)) (by simp))
 case leq=>obtain rfl:=hkk.resolve_right (by simp);exact ok_of kind rfl (run fun w=>by simp [binOp,Op.intCmp]) (hk (decide (n≤l)) (by simp))
 case gtr=>obtain rfl:=hkk.resolve_right (by simp);exact ok_of kind rfl (run fun w=>by simp [binOp,Op.intCmp]) (hk (decide (l<n)) (by simp))
 case geq=>obtain rfl:=hkk.resolve_right (by simp);exact ok_of kind rfl (run fun w=>by simp [binOp,Op.intCmp]) (hk (decide (l≤n)) (by simp))
def runStr (op:BinOp) (x y:List UInt8) (K:Kont):Prop:=
 match op with
 | .add=>x.length+y.length≤maxLen∧K (.str (x++y)) [] []
 | .eql=>boolRes (x=y) K
 | .neq=>boolRes (x≠y) K
 | .lss=>boolRes (Op.bytesLess x y=true) K
 | .leq=>boolRes (Op.bytesLess x y=true∨x=y) K
 | .gtr=>boolRes (Op.bytesLess x y=false∧x≠y) K
 | .geq=>boolRes (Op.bytesLess x y=false) K
 | _=>False
theorem toList_mk (l:List UInt8):(⟨l.toArray⟩:ByteArray).toList=l:=by rw [ByteArray.toList_eq]
theorem runStr_ok [Glob] {op:BinOp}{t t':Nat}{x y:Operand}{n l:List UInt8}(hop:o.op=.binOp op t x y t') (hx:ρ x=.str n) (hy:ρ y=.str l) (hk:runStr op n l K) :
  ∃ v us rd,GoodV P N o ρ h v us rd∧K v us rd:=by
 have run:∀ {c:Value},(∀ w:World,(binOp op t (.string ⟨n.toArray⟩) (.string ⟨l.toArray⟩)).run P w=.ok c w)→∀ (Γ:Ctx) (m:MM) (s:ASt) (a:Act) (w:World),Rel Γ m s a w→(∀ x∈o.op.operands,VRel w (Forb Γ m) m (ρ x) (a.eval x))→(execOp a.eval o).run P w=.ok (.value c) w:=by
  intro c hc Γ m s a w hr ho;have h1:=ho x (by simp [hop,Op.operands]);have h2:=ho y (by simp [hop,Op.operands]);rw [hx] at h1;rw [hy] at h2;have h1:=h1.str_inv.1;have h2:=h2.str_inv.1;have hg:∀ w:World,(eqGuard op t x y (.string ⟨n.toArray⟩) (.string ⟨l.toArray⟩)).run P w=.ok () w:=fun w=>by
   unfold eqGuard;cases op<;>rfl
  simp [execOp,hop,h1,h2,hg,hc]
 have kind:∀ {r:Bool},∀ (w:World) (F:Nat→Prop) (m:MM),VRel w F m (.bool r) (.bool r):=fun w F m=>.bool _;unfold runStr at hk;cases op<;>simp only at hk
 case add =>
  refine ok_of (v:=.str (n++l)) (c:=.string ⟨(n++l).toArray⟩) (fun w F m=>.str _ (by simp;omega)) rfl (run fun w=>?_) hk.2;have h1:=hk.1;unfold maxLen at h1;have e1:(⟨n.toArray⟩:ByteArray).size=n.length:=by simp [ByteArray.size]
  have e2:(⟨l.toArray⟩:ByteArray).size=l.length:=by simp [ByteArray.size]
  have h2:¬ (((((⟨n.toArray⟩:ByteArray).size+(⟨l.toArray⟩:ByteArray).size:Nat):Int)) > IntKind.i64.max):=by
   rw [e1,e2];have:IntKind.i64.max=9223372036854775807:=by decide
   omega
  simp only [binOp,Op.stringOp,h2,if_false];have:(⟨n.toArray⟩:ByteArray)++(⟨l.toArray⟩:ByteArray)=⟨(n++l).toArray⟩:=by
   rw [ByteArray.ext_iff];simp
  simp [this]
 case eql=>exact ok_of kind rfl (run fun w=>by simp [binOp,Op.stringOp,toList_mk]) (hk (n == l) (by simp))
 case neq=>exact ok_of kind rfl (run fun w=>by simp [binOp,Op.stringOp,toList_mk]) (hk (!(n == l)) (by simp))
 case lss=>exact ok_of kind rfl (run fun w=>by simp [binOp,Op.stringOp,toList_mk]) (hk (Op.bytesLess n l) (by simp))
 case leq=>exact ok_of kind rfl (run fun w=>by simp [binOp,Op.stringOp,toList_mk]) (hk (Op.bytesLess n l||n == l) (by simp))
 case gtr=>exact ok_of kind rfl (run fun w=>by simp [binOp,Op.stringOp,toList_mk]) (hk (!(Op.bytesLess n l||n == l)) (by simp))
 case geq=>exact ok_of kind rfl (run fun w=>by simp [binOp,Op.stringOp,toList_mk]) (hk (!(Op.bytesLess n l)) (by simp))
end
attribute [irreducible] boolRes
end Go.Sx
namespace Go.Sx
open Go
section
variable {P:Program}{N:NB}{T:List (Nat×TI)}{o:Oper}{h:Nat→List Blk}{K:Kont}{ρ:Operand→V}
def runNilCheck (a:V) (K:Kont):Prop:=
 match a with
 | .bp s o=>K (.bp s o) [] []
 | .pel s i r o n=>K (.pel s i r o n) [] []
 | .ro row o=>K (.ro row o) [] []
 | .fn f caps=>K (.fn f caps) [] []
 | _=>False
theorem runNilCheck_ok [Glob] {x:Operand}(hop:o.op=.nilCheck x) (hk:runNilCheck (ρ x) K):∃ v us rd,GoodV P N o ρ h v us rd∧K v us rd:=by
 unfold runNilCheck at hk;have go:∀ v,ρ x=v→K v [] []→(∀ (w:World) (F:Nat→Prop) (m:MM) c,VRel w F m v c→(∃ a,c=.pointer (some a))∨∃ f cs,c=.func (.func f) #[] cs)→∃ v us rd,GoodV P N o ρ h v us rd∧K v us rd:=fun v hv hk hc =>
  ⟨v,[],[],good_pure (fun Γ m s a w hr ho=>by
   have h1:=ho x (by simp [hop,Op.operands])
   rw [hv] at h1
   rcases hc _ _ _ _ h1 with ⟨b,hb⟩ | ⟨f,cs,hb⟩<;>exact ⟨a.eval x,by simp [execOp,hop,hb],h1⟩) (fun k hk=>⟨x,by simp [hop,Op.operands],by rw [hv];exact hk⟩),hk⟩
 split at hk
 ·rename_i s o hx;exact go _ hx hk fun w F m c hv=>by cases hv with | bp s o c hc h=>exact .inl hc
 ·rename_i s i r o n hx;exact go _ hx hk fun w F m c hv=>by cases hv with | pel s i r o n c hc h=>exact .inl hc
 ·rename_i row o hx;exact go _ hx hk fun w F m c hv=>by obtain ⟨b,base,hc,_⟩:=hv.ro_inv;exact .inl ⟨_,hc⟩
 ·rename_i f caps hx;exact go _ hx hk fun w F m c hv=>by cases hv with | fn f cs c hl hv=>exact .inr ⟨_,_,rfl⟩
 ·exact hk.elim
def runFieldAddr (T:List (Nat×TI)) (t:Nat) (a:V) (f:Nat) (K:Kont):Prop:=
 match look T t with
 | some ⟨.st fs,_,_,_⟩ =>
  match fs[f]? with
  | none=>False
  | some (off,ft) =>
   match look T ft with
   | none=>False
   | some ti =>
    match Nat.beq ti.sz 0 with
    | true=>False
    | false =>
     match a with
     | .bp s o=>K (.bp s (o+off)) [] []
     | .pel s i r o n=>K (.pel s i r (o+off) n) [] []
     | .ro row o=>(match Nat.ble (o+off) row.length with | true=>K (.ro row (o+off)) [] [] | false=>False)
     | _=>False
 | _=>False
theorem tkOf_st {d:TypeDesc}{fs:List (Nat×Nat)}(h:tkOf d=.st fs):∃ fields,d=.struct fields∧fs=fields.toList.map fun f=>(f.offset,f.type):=by
 cases d<;>simp [tkOf] at h;exact ⟨_,rfl,h.symm⟩
theorem tkOf_sl {d:TypeDesc}{e:Nat}(h:tkOf d=.sl e):d=.slice e:=by
 cases d<;>simp [tkOf] at h;rw [h]
theorem tkOf_arr {d:TypeDesc}{n e:Nat}(h:tkOf d=.arr n e):d=.array n e:=by
 cases d<;>simp [tkOf] at h;rw [h.1,h.2]
theorem tkOf_str {d:TypeDesc}(h:tkOf d=.str):d=.string:=by
 cases d<;>simp [tkOf] at h;rfl
theorem tkOf_int {d:TypeDesc}{k:IntKind}(h:tkOf d=.int k):d=.int k:=by
 cases d<;>simp [tkOf] at h;rw [h]
theorem tkOf_map {d:TypeDesc}{k e:Nat}(h:tkOf d=.map k e):d=.map k e:=by
 cases d<;>simp [tkOf] at h;rw [h.1,h.2]
theorem run_fieldAt {t f off ft:Nat}{fs:List (Nat×Nat)}{sz bytes:Nat}{z:List V}{ti:TI}(hT:TOK P t ⟨.st fs,sz,bytes,z⟩) (hf:fs[f]?=some (off,ft)) (hF:TOK P ft ti) (hz:ti.sz≠0) (a:Addr) (w:World) :
  (Instr.fieldAt t (.pointer (some a)) f).run P w=.ok (.pointer (some (a.add off))) w:=by
 obtain ⟨d,i,z,h1,h2,h3,_⟩:=hT;obtain ⟨fields,rfl,hfs⟩:=tkOf_st h3;rw [hfs,List.getElem?_map,Option.map_eq_some_iff] at hf;obtain ⟨fd,hfd,he⟩:=hf;cases he;have hfd':fields[f]?=some fd:=by simpa using hfd
 simp [Instr.fieldAt,run_underlying h1,hfd',Instr.sureAddr,fieldPlace,run_sizeOf hF,hz]
theorem runFieldAddr_ok [Glob] (hT:TableOK P T) {t f:Nat}{x:Operand}(hop:o.op=.fieldAddr t x f) (hk:runFieldAddr T t (ρ x) f K):∃ v us rd,GoodV P N o ρ h v us rd∧K v us rd:=by
 unfold runFieldAddr at hk;split at hk
 ·rename_i fs sz bytes z hti;split at hk
  ·exact hk.elim
  ·rename_i off ft hf;split at hk
   ·exact hk.elim
   ·rename_i ti hft;split at hk
    ·exact hk.elim
    ·rename_i hz;have hz:ti.sz≠0:=fun e=>by rw [e] at hz;cases hz
     have hrun:=fun (a:Addr) (w:World)=>run_fieldAt (hT _ _ hti) hf (hT _ _ hft) hz a w;have go:∀ v v',ρ x=v→K v' [] []→v'.sites=v.sites→(∀ (w:World) (F:Nat→Prop) (m:MM) c,VRel w F m v c→∃ a,c=.pointer (some a)∧VRel w F m v' (.pointer (some (a.add off))))→∃ v us rd,GoodV P N o ρ h v us rd∧K v us rd:=fun v v' hv hk hst hc =>
      ⟨v',[],[],good_pure (fun Γ m s a w hr ho=>by
       have h1:=ho x (by simp [hop,Op.operands])
       rw [hv] at h1
       obtain ⟨b,hb,hv'⟩:=hc _ _ _ _ h1
       exact ⟨_,by simp [execOp,hop,hb,hrun],hv'⟩) (fun k hk=>⟨x,by simp [hop,Op.operands],by rw [hv,←hst];exact hk⟩),hk⟩
     split at hk
     ·rename_i s o0 hx;refine go _ _ hx hk (by simp [V.sites]) fun w F m c hv=>?_;cases hv with
      | bp s o c hc h =>
       obtain ⟨a,rfl⟩:=hc;refine ⟨a,rfl,.bp _ _ _ ⟨_,rfl⟩ fun y hy=>?_⟩;obtain ⟨h1,h2⟩:=h y hy;refine ⟨h1,fun h3=>?_⟩;obtain ⟨h4,h5⟩:=h2 h3;refine ⟨h4,?_⟩;cases h5;rw [add_lit,Nat.add_assoc]
     ·rename_i s i r o0 n hx;refine go _ _ hx hk (by simp [V.sites]) fun w F m c hv=>?_;cases hv with
      | pel s i r o n c hc h =>
       obtain ⟨a,rfl⟩:=hc;refine ⟨a,rfl,.pel _ _ _ _ _ _ ⟨_,rfl⟩ fun y hy=>?_⟩;obtain ⟨h1,h2⟩:=h y hy;refine ⟨h1,fun h3=>?_⟩;obtain ⟨h4,h5⟩:=h2 h3;refine ⟨h4,?_⟩;cases h5;rw [add_lit,Nat.add_assoc (_+_)]
     ·rename_i row o0 hx;split at hk
      ·rename_i hle;refine go _ _ hx hk (by simp [V.sites]) fun w F m c hv=>?_;cases hv with
       | ro row o b base c hF hb ho hd h1 ho1 hc hv =>
        refine ⟨_,rfl,?_⟩;rw [add_lit,Nat.add_assoc];exact .ro row (o0+off) b base c hF hb (Nat.le_of_ble_eq_true hle) hd h1 ho1 hc hv
      ·exact hk.elim
     ·exact hk.elim
 ·exact hk.elim
def runIndexAddr (T:List (Nat×TI)) (t:Nat) (h:Nat→List Blk) (a ix:V) (K:Kont):Prop:=
 match ix with
 | .int _ n =>
  match look T t with
  | some ⟨.sl e,_,_,_⟩ =>
   (match look T e with
   | none=>False
   | some ti =>
    match a with
    | .sl rows _=>0≤n∧rowAt rows n.toNat fun row=>(match Nat.beq row.length ti.sz with | true=>K (.ro row 0) [] [] | false=>False)
    | .osl s i o l g=>(match (h s)[i]? with
     | some (.rows sz rows _)=>(match Nat.beq sz ti.sz with | true=>g=rows.length∧(0≤n∧n<l)∧K (.pel s i (o+n.toNat) 0 g) [] [s] | false=>False)
     | _=>False)
    | _=>False)
  | some ⟨.arr len e,_,_,_⟩ =>
   (match look T e with
   | none=>False
   | some ti =>
    match a with
    | .bp s o=>(0≤n∧n<len)∧K (.bp s (o+n.toNat*ti.sz)) [] []
    | .pel s i r o g=>(0≤n∧n<len)∧K (.pel s i r (o+n.toNat*ti.sz) g) [] []
    | _=>False)
  | _=>False
 | _=>False
theorem run_indexAt_sl {t e:Nat}{sz bytes:Nat}{z:List V}{ti:TI}(hT:TOK P t ⟨.sl e,sz,bytes,z⟩) (hE:TOK P e ti) (a:Addr) (l cap:Nat) (k:IntKind) (n:Int) (h0:0≤n) (h1:n<l) (w:World) :
  (Instr.indexAt t (.slice (some a) l cap) (.int k n)).run P w=.ok (.pointer (some (a.add (n.toNat*ti.sz)))) w:=by
 obtain ⟨d,i,z,g1,g2,g3,_⟩:=hT;have:=tkOf_sl g3;subst this;simp [Instr.indexAt,asIntOf,run_underlying g1,h0,h1,run_sizeOf hE]
theorem run_indexAt_arr {t e len:Nat}{sz bytes:Nat}{z:List V}{ti:TI}(hT:TOK P t ⟨.arr len e,sz,bytes,z⟩) (hE:TOK P e ti) (a:Addr) (k:IntKind) (n:Int) (h0:0≤n) (h1:n<len) (w:World) :
  (Instr.indexAt t (.pointer (some a)) (.int k n)).run P w=.ok (.pointer (some (a.add (n.toNat*ti.sz)))) w:=by
 obtain ⟨d,i,z,g1,g2,g3,_⟩:=hT;have:=tkOf_arr g3;subst this;simp [Instr.indexAt,asIntOf,run_underlying g1,h0,h1,run_sizeOf hE,Instr.sureAddr]
theorem runIndexAddr_ok [Glob] (hT:TableOK P T) {t:Nat}{x y:Operand}(hop:o.op=.indexAddr t x y) (hk:runIndexAddr T t h (ρ x) (ρ y) K):∃ v us rd,GoodV P N o ρ h v us rd∧K v us rd:=by
 unfold runIndexAddr at hk;split at hk
 ·rename_i kk n hy;split at hk
  ·rename_i e sz0 bytes z hti;split at hk
   ·exact hk.elim
   ·rename_i ti he;have hT1:=hT _ _ hti;have hT2:=hT _ _ he;split at hk
    ·rename_i rows full hx;obtain ⟨h0,hk⟩:=hk;obtain ⟨row,hrow,hk⟩:=rowAt_elim hk;split at hk
     ·rename_i hlen;have hlen:=Nat.eq_of_beq_eq_true hlen;refine ⟨_,_,_,good_pure (fun Γ m s a w hr ho=>?_) (by simp [V.sites]),hk⟩;have h1:=ho x (by simp [hop,Op.operands]);have h2:=ho y (by simp [hop,Op.operands]);rw [hx] at h1;rw [hy] at h2;have h2:=h2.int_inv;have hlt:n.toNat<rows.length:=(List.getElem?_eq_some_iff.1 hrow).1;generalize hc:a.eval x=c at h1;cases h1 with
      | nilsl=>simp at hlt
      | sl rows full sz b base cap c hF hl hm hf hz hd h1 ho1 hc' hv =>
       obtain ⟨f1,f2⟩:=hF (by intro e;subst e;simp at hlt);have hlt':n<(rows.length:Int):=by omega
       refine ⟨.pointer (some ((⟨b,base,none⟩:Addr).add (n.toNat*ti.sz))),by simp only [execOp,hop,hc,h2,Sem.run_bind,run_indexAt_sl hT1 hT2 _ _ _ _ _ h0 hlt' w];rfl,?_⟩;rw [add_lit];refine .ro row 0 b (base+n.toNat*ti.sz) (fun j=>c n.toNat j) f1 f2 (Nat.zero_le _) (fun j v hj=>hd _ _ _ _ hrow hj) (fun j v hj=>h1 _ _ _ _ hrow hj) (fun j v hj=>ho1 _ _ _ _ hrow hj) (fun j v hj=>?_) (fun j v hj=>hv _ _ _ _ hrow hj);have hs:=hz _ _ hrow;have:=hc' _ _ _ _ hrow hj;rw [←hs,hlen] at this;exact this
     ·exact hk.elim
    ·rename_i s i o0 l g hx;split at hk
     ·rename_i sz rows ks hh;split at hk
      ·rename_i hsz;have hsz:=Nat.eq_of_beq_eq_true hsz;obtain ⟨hg,⟨h0,h1⟩,hk⟩:=hk;refine ⟨_,_,_,GoodV.still fun Γ m s' a w hr ho hgd=>?_,hk⟩;have hvx:=hr.evalO x;have hvy:=hr.evalO y;rw [ho x (by simp [hop,Op.operands]),hx] at hvx;rw [ho y (by simp [hop,Op.operands]),hy] at hvy;have hvy:=hvy.int_inv;obtain ⟨q,hq,hB⟩:=hr.heap s i (.rows sz rows ks) (by rw [hgd s (by simp)];exact hh);have hB:RowsOK w (Forb Γ m) m q sz rows ks:=hB;generalize hc:a.eval x=c at hvx;cases hvx with
       | osl s i o l n' c hcf hv =>
        obtain ⟨h2,h3⟩:=hv q hq;obtain ⟨h4,h5⟩:=h3 (by rw [hB.hn];exact hg);rcases h5 with ⟨hl0,_⟩ | ⟨hnil,cap,ee,nn,rfl,h6,h7,h8,h9⟩
        ·omega
        refine ⟨_,by simp only [execOp,hop,hc,hvy,Sem.run_bind,run_indexAt_sl hT1 hT2 _ _ _ _ _ h0 h1 w];rfl,?_,fun k hk=>by simp [V.sites] at hk;subst hk;exact hr.useH _ (by rw [hgd _ (by simp)];intro e0;rw [e0] at hh;simp at hh)⟩;refine .pel _ _ _ _ _ _ ⟨_,rfl⟩ fun q' hq'=>?_;rw [hq] at hq';cases hq';refine ⟨h2,fun _=>⟨hnil,?_⟩⟩;rw [add_lit,hB.hsz,hsz,Nat.add_mul,Nat.add_zero,Nat.add_assoc]
      ·exact hk.elim
     ·exact hk.elim
    ·exact hk.elim
  ·rename_i len e sz0 bytes z hti;split at hk
   ·exact hk.elim
   ·rename_i ti he;have hT1:=hT _ _ hti;have hT2:=hT _ _ he;split at hk
    ·rename_i s o0 hx;obtain ⟨⟨h0,h1⟩,hk⟩:=hk;refine ⟨_,_,_,good_pure (fun Γ m s a w hr ho=>?_) (fun k hk=>⟨x,by simp [hop,Op.operands],by rw [hx];exact hk⟩),hk⟩;have hvx:=ho x (by simp [hop,Op.operands]);have h2:=ho y (by simp [hop,Op.operands]);rw [hx] at hvx;rw [hy] at h2;have h2:=h2.int_inv;generalize hc:a.eval x=c at hvx;cases hvx with
     | bp s o c hcf hv =>
      obtain ⟨ad,rfl⟩:=hcf;refine ⟨_,by simp only [execOp,hop,hc,h2,Sem.run_bind,run_indexAt_arr hT1 hT2 _ _ _ h0 h1 w];rfl,?_⟩;refine .bp _ _ _ ⟨_,rfl⟩ fun q hq=>?_;obtain ⟨h3,h4⟩:=hv q hq;refine ⟨h3,fun h5=>?_⟩;obtain ⟨h6,h7⟩:=h4 h5;refine ⟨h6,?_⟩;cases h7;rw [add_lit,Nat.add_assoc]
    ·rename_i s i r o0 g hx;obtain ⟨⟨h0,h1⟩,hk⟩:=hk;refine ⟨_,_,_,good_pure (fun Γ m s a w hr ho=>?_) (fun k hk=>⟨x,by simp [hop,Op.operands],by rw [hx];exact hk⟩),hk⟩;have hvx:=ho x (by simp [hop,Op.operands]);have h2:=ho y (by simp [hop,Op.operands]);rw [hx] at hvx;rw [hy] at h2;have h2:=h2.int_inv;generalize hc:a.eval x=c at hvx;cases hvx with
     | pel s i r o n' c hcf hv =>
      obtain ⟨ad,rfl⟩:=hcf;refine ⟨_,by simp only [execOp,hop,hc,h2,Sem.run_bind,run_indexAt_arr hT1 hT2 _ _ _ h0 h1 w];rfl,?_⟩;refine .pel _ _ _ _ _ _ ⟨_,rfl⟩ fun q hq=>?_;obtain ⟨h3,h4⟩:=hv q hq;refine ⟨h3,fun h5=>?_⟩;obtain ⟨h6,h7⟩:=h4 h5;refine ⟨h6,?_⟩;cases h7;rw [add_lit,Nat.add_assoc (_+_)]
    ·exact hk.elim
  ·exact hk.elim
 ·exact hk.elim
end
end Go.Sx
namespace Go.Sx
open Go
section
variable {P:Program}{N:NB}{T:List (Nat×TI)}{o:Oper}{h:Nat→List Blk}{K:Kont}{ρ:Operand→V}
def runExtract (x:V) (i:Nat) (K:Kont):Prop:=
 match x with
 | .tup vs=>(match vs[i]? with | some v=>K v [] [] | none=>False)
 | _=>False
theorem runExtract_ok [Glob] {x:Operand}{i:Nat}(hop:o.op=.extract x i) (hk:runExtract (ρ x) i K):∃ v us rd,GoodV P N o ρ h v us rd∧K v us rd:=by
 unfold runExtract at hk;split at hk
 ·rename_i vs hx;split at hk
  ·rename_i v hv;refine ⟨v,[],[],good_pure (fun Γ m s a w hr ho=>?_) (fun k hk=>⟨x,by simp [hop,Op.operands],by rw [hx];simp only [V.sites,sitesL_eq];exact List.mem_flatMap.2 ⟨v,List.mem_of_getElem? hv,hk⟩⟩),hk⟩;have h1:=ho x (by simp [hop,Op.operands]);rw [hx] at h1;generalize hc:a.eval x=c at h1;cases h1 with
   | tup cs c hl hvv =>
    have hlt:i<c.length:=by rw [←hl];exact (List.getElem?_eq_some_iff.1 hv).1
    have hci:c[i]?=some c[i]:=List.getElem?_eq_getElem hlt;exact ⟨c[i],by simp [execOp,hop,hc,Instr.extract,hlt],hvv i v _ hv hci⟩
  ·exact hk.elim
 ·exact hk.elim
def runUn (op:UnOp) (x:V) (K:Kont):Prop:=
 match op,x with
 | .not,.bool b=>K (.bool (!b)) [] []
 | .neg,.int k n=>intRes k (0-n) K
 | _,_=>False
theorem runUn_ok [Glob] {op:UnOp}{t:Nat}{x:Operand}(hop:o.op=.unOp op t x) (hk:runUn op (ρ x) K):∃ v us rd,GoodV P N o ρ h v us rd∧K v us rd:=by
 unfold runUn at hk;split at hk
 ·rename_i b hx;refine ok_of (v:=.bool (!b)) (c:=.bool (!b)) (fun _ _ _=>.bool _) rfl (fun Γ m s a w hr ho=>?_) hk;have h1:=ho x (by simp [hop,Op.operands]);rw [hx] at h1;simp [execOp,hop,h1.bool_inv,Op.unary]
 ·rename_i k n hx;refine ok_of (v:=.int k (k.wrap (0-n))) (c:=.int k (k.wrap (0-n))) (fun _ _ _=>.int _ _) rfl (fun Γ m s a w hr ho=>?_) (intRes_ok hk);have h1:=ho x (by simp [hop,Op.operands]);rw [hx] at h1;simp [execOp,hop,h1.int_inv,Op.unary,Op.intArith]
 ·exact hk.elim
def runMakeFunc (f:Fn) (first captured:List V) (K:Kont):Prop:=
 match f,first with
 | .func f,[]=>K (.fn f captured) [] []
 | _,_=>False
theorem runMakeFunc_ok [Glob] {f:Fn}{x y:Array Operand}(hop:o.op=.makeFunc f x y) (hk:runMakeFunc f (x.toList.map ρ) (y.toList.map ρ) K):∃ v us rd,GoodV P N o ρ h v us rd∧K v us rd:=by
 unfold runMakeFunc at hk;split at hk
 ·rename_i f hx;have hx0:x=#[]:=by cases x;simp_all
  subst hx0;refine ⟨_,[],[],good_pure (fun Γ m s a w hr ho=>?_) (fun k hk=>?_),hk⟩
  case refine_2 =>
   simp only [V.sites,sitesL_eq,List.mem_flatMap,List.mem_map] at hk;obtain ⟨u,⟨q,hq,rfl⟩,hk⟩:=hk;exact ⟨q,by simp only [hop,Op.operands];exact Array.mem_append_right _ (Array.mem_toList_iff.1 hq),hk⟩
  refine ⟨.func (.func f) #[] (y.map a.eval),by simp [execOp,hop,Instr.makeFunc],?_⟩;have:y.map a.eval=(y.toList.map a.eval).toArray:=by cases y;simp
  rw [this];refine .fn f _ _ (by simp) fun j v c hj hc=>?_;simp only [List.getElem?_map,Option.map_eq_some_iff] at hj hc;obtain ⟨u,hu,rfl⟩:=hj;obtain ⟨u',hu',rfl⟩:=hc;rw [hu] at hu';cases hu';exact ho u (by simp only [hop,Op.operands];exact Array.mem_append_right _ (Array.mem_toList_iff.1 (List.mem_of_getElem? hu)))
 ·exact hk.elim
def runIndex (T:List (Nat×TI)) (t:Nat) (x ix:V) (K:Kont):Prop:=
 match ix with
 | .int _ n =>
  match x with
  | .str s=>0≤n∧(match s[n.toNat]? with | some b=>K (.int .u8 b.toNat) [] [] | none=>False)
  | .agg cs =>
   match look T t with
   | some ⟨.arr len e,_,_,_⟩ =>
    (match look T e with
    | none=>False
    | some ti=>(0≤n∧n<len)∧(match part ti cs (n.toNat*ti.sz) with | some v=>K v [] [] | none=>False))
   | _=>False
  | _=>False
 | _=>False
theorem run_part {P:Program}{t:Nat}{ti:TI}(hT:TOK P t ti) {w:World}{F:Nat→Prop}{m:MM}{cs:List V}{c:List Value}{o:Nat}{v:V}
  (hl:cs.length=c.length) (ho:∀ x∈c,x.oneCell'=true) (h1:∀ (j:Nat) (v:V),cs[j]?=some v→v.one=true) (hv:∀ (j:Nat) v x,cs[j]?=some v→c[j]?=some x→VRel w F m v x) (hp:part ti cs o=some v) :
  ∃ x,(Go.part t c.toArray o).run P w=.ok x w∧VRel w F m v x:=by
 simp only [Go.part,Sem.run_bind,run_isAgg hT,Result.andThen_ok];unfold part at hp;cases ha:ti.k.agg with
 | true =>
  simp only [ha] at hp;split at hp
  ·rename_i hle;have hle:=Nat.le_of_ble_eq_true hle;cases hp;refine ⟨.agg ((c.drop o).take ti.sz).toArray,?_,?_⟩
   ·simp only [if_true,Sem.run_bind,run_sizeOf hT,Result.andThen_ok,Sem.run_pure];congr 2;apply Array.ext';simp
   ·refine .agg _ _ (by simp [hl]) (fun x hx=>ho x (List.mem_of_mem_drop (List.mem_of_mem_take hx))) (fun j u hj=>?_) (fun j u x hj hx=>?_)
    ·rw [List.getElem?_take] at hj;split at hj
     ·rw [List.getElem?_drop] at hj;exact h1 _ _ hj
     ·cases hj
    ·rw [List.getElem?_take] at hj hx;split at hj
     ·rename_i hlt;rw [if_pos hlt] at hx;rw [List.getElem?_drop] at hj hx;exact hv _ _ _ hj hx
     ·cases hj
  ·cases hp
 | false =>
  simp only [ha] at hp;have hlt:o<c.length:=by rw [←hl];exact (List.getElem?_eq_some_iff.1 hp).1
  exact ⟨c[o],by simp [hlt],hv o v _ hp (List.getElem?_eq_getElem hlt)⟩
theorem runIndex_ok [Glob] (hT:TableOK P T) {t:Nat}{x y:Operand}(hop:o.op=.index t x y) (hstr:∀ s,ρ x=.str s→∃ ti,look T t=some ti∧ti.k=.str) (hk:runIndex T t (ρ x) (ρ y) K):∃ v us rd,GoodV P N o ρ h v us rd∧K v us rd:=by
 unfold runIndex at hk;split at hk
 ·rename_i kk n hy;split at hk
  ·rename_i s hx;obtain ⟨h0,hk⟩:=hk;split at hk
   ·rename_i b hb;refine ok_of (v:=.int .u8 b.toNat) (c:=.int .u8 b.toNat) (fun _ _ _=>.int _ _) rfl (fun Γ m st a w hr ho=>?_) hk;have h1:=ho x (by simp [hop,Op.operands]);have h2:=ho y (by simp [hop,Op.operands]);rw [hx] at h1;rw [hy] at h2;obtain ⟨ti,hti,hks⟩:=hstr s hx;obtain ⟨d,i,z,g1,g2,g3,_⟩:=hT _ _ hti;rw [hks] at g3;have:=tkOf_str g3;subst this;have hb':(⟨s.toArray⟩:ByteArray)[n.toNat]?=some b:=by
     have hlt:n.toNat<s.length:=(List.getElem?_eq_some_iff.1 hb).1;rw [getElem?_pos _ _ (by simpa [ByteArray.size] using hlt)];have:=(List.getElem?_eq_some_iff.1 hb).2;rw [←this];rfl
    simp [execOp,hop,h1.str_inv.1,h2.int_inv,Instr.index,asIntOf,run_underlying g1,h0,hb']
   ·exact hk.elim
  ·rename_i cs hx;split at hk
   ·rename_i len e sz bytes z hti;split at hk
    ·exact hk.elim
    ·rename_i ti he;obtain ⟨⟨h0,h1⟩,hk⟩:=hk;split at hk
     ·rename_i v hp;refine ⟨v,[],[],good_pure (fun Γ m st a w hr ho=>?_) (fun k hk=>⟨x,by simp [hop,Op.operands],by rw [hx];simp only [V.sites,sitesL_eq];obtain ⟨u,hu,hk⟩:=part_sites hp k hk;exact List.mem_flatMap.2 ⟨u,hu,hk⟩⟩),hk⟩;have hvx:=ho x (by simp [hop,Op.operands]);have h2:=ho y (by simp [hop,Op.operands]);rw [hx] at hvx;rw [hy] at h2;generalize hc:a.eval x=c at hvx;cases hvx with
      | agg cs c hl ho1 h11 hv =>
       obtain ⟨q,hq1,hq2⟩:=run_part (hT _ _ he) hl ho1 h11 hv hp;refine ⟨q,?_,hq2⟩;obtain ⟨d,i,z,g1,g2,g3,_⟩:=hT _ _ hti;have:=tkOf_arr g3;subst this;simp [execOp,hop,hc,h2.int_inv,Instr.index,asIntOf,run_underlying g1,h0,h1,run_sizeOf (hT _ _ he),hq1]
     ·exact hk.elim
   ·exact hk.elim
  ·exact hk.elim
 ·exact hk.elim
def runField (T:List (Nat×TI)) (t:Nat) (x:V) (f:Nat) (K:Kont):Prop:=
 match x with
 | .agg cs =>
  match look T t with
  | some ⟨.st fs,_,_,_⟩ =>
   (match fs[f]? with
   | none=>False
   | some (off,ft)=>match look T ft with
    | none=>False
    | some ti=>match part ti cs off with | some v=>K v [] [] | none=>False)
  | _=>False
 | _=>False
theorem runField_ok [Glob] (hT:TableOK P T) {t f:Nat}{x:Operand}(hop:o.op=.field t x f) (hk:runField T t (ρ x) f K):∃ v us rd,GoodV P N o ρ h v us rd∧K v us rd:=by
 unfold runField at hk;split at hk
 ·rename_i cs hx;split at hk
  ·rename_i fs sz bytes z hti;split at hk
   ·exact hk.elim
   ·rename_i off ft hf;split at hk
    ·exact hk.elim
    ·rename_i ti hft;split at hk
     ·rename_i v hp;refine ⟨v,[],[],good_pure (fun Γ m st a w hr ho=>?_) (fun k hk=>⟨x,by simp [hop,Op.operands],by rw [hx];simp only [V.sites,sitesL_eq];obtain ⟨u,hu,hk⟩:=part_sites hp k hk;exact List.mem_flatMap.2 ⟨u,hu,hk⟩⟩),hk⟩;have hvx:=ho x (by simp [hop,Op.operands]);rw [hx] at hvx;generalize hc:a.eval x=c at hvx;cases hvx with
      | agg cs c hl ho1 h11 hv =>
       obtain ⟨q,hq1,hq2⟩:=run_part (hT _ _ hft) hl ho1 h11 hv hp;refine ⟨q,?_,hq2⟩;obtain ⟨d,i,z,g1,g2,g3,_⟩:=hT _ _ hti;obtain ⟨fields,rfl,hfs⟩:=tkOf_st g3;rw [hfs,List.getElem?_map,Option.map_eq_some_iff] at hf;obtain ⟨fd,hfd,he⟩:=hf;cases he;have hfd':fields[f]?=some fd:=by simpa using hfd
       simp [execOp,hop,hc,Instr.field,run_underlying g1,hfd',asAgg,hq1]
     ·exact hk.elim
  ·exact hk.elim
 ·exact hk.elim
def runConvert (T:List (Nat×TI)) (src dst:Nat) (x:V) (K:Kont):Prop:=
 match look T dst with
 | none=>False
 | some ti =>
  match look T src with
  | none=>False
  | some _ =>
  match ti.k,x with
  | .int k,.int _ n=>intRes k n K
  | .str,.str s=>K (.str s) [] []
  | _,_=>False
theorem runConvert_ok [Glob] (hT:TableOK P T) {t t':Nat}{x:Operand}(hop:o.op=.convert t t' x) (hk:runConvert T t t' (ρ x) K):∃ v us rd,GoodV P N o ρ h v us rd∧K v us rd:=by
 unfold runConvert at hk;split at hk
 ·exact hk.elim
 ·rename_i ti hti;split at hk
  ·exact hk.elim
  ·rename_i ti' hti';obtain ⟨d',i',z',g1',g2',g3',_⟩:=hT _ _ hti';obtain ⟨d,i,z,g1,g2,g3,_⟩:=hT _ _ hti;split at hk
   ·rename_i k kk n hks hx;refine ok_of (v:=.int k (k.wrap n)) (c:=.int k (k.wrap n)) (fun _ _ _=>.int _ _) rfl (fun Γ m st a w hr ho=>?_) (intRes_ok hk);have h1:=ho x (by simp [hop,Op.operands]);rw [hx] at h1;rw [hks] at g3;have:=tkOf_int g3;subst this;simp only [execOp,hop,h1.int_inv,convert,Sem.run_bind,run_underlying g1',run_underlying g1,Result.andThen_ok];cases d'<;>rfl
   ·rename_i s hks hx;refine ⟨_,[],[],good_pure (fun Γ m st a w hr ho=>?_) (by simp [V.sites]),hk⟩;have h1:=ho x (by simp [hop,Op.operands]);rw [hx] at h1;rw [hks] at g3;have:=tkOf_str g3;subst this;refine ⟨_,?_,h1⟩;simp only [execOp,hop,h1.str_inv.1,convert,Sem.run_bind,run_underlying g1',run_underlying g1,Result.andThen_ok];cases d'<;>rfl
   ·exact hk.elim
def oslRows (h:Nat→List Blk) (s i:Nat):Option (Nat×List (List V)×Option (List Nat)):=
 match (h s)[i]? with
 | some (.rows sz rows ks)=>some (sz,rows,ks)
 | _=>none
def runLen (T:List (Nat×TI)) (t:Nat) (h:Nat→List Blk) (x:V) (K:Kont):Prop:=
 match look T t with
 | none=>False
 | some ti =>
  match ti.k,x with
  | .sl _,.sl rows _=>rows.length≤maxLen→K (.int .i64 rows.length) [] []
  | .sl _,.nils=>K (.int .i64 0) [] []
  | .sl _,.osl s i o l n=>(match oslRows h s i with
   | some (_,rows,_)=>n=rows.length∧(l≤maxLen→K (.int .i64 l) [] [s])
   | none=>False)
  | .str,.str s=>s.length≤maxLen→K (.int .i64 s.length) [] []
  | .map _ _,.nilm=>K (.int .i64 0) [] []
  | .sl _,.sle=>K (.int .i64 0) [] []
  | .map _ _,.omap s i=>(match (h s)[i]? with
   | some (.map es _ _)=>K (.int .i64 es.length) [] [s]
   | _=>False)
  | _,_=>False
theorem oslRows_some {s i:Nat}{sz:Nat}{rows:List (List V)}{ks:Option (List Nat)}(hh:oslRows h s i=some (sz,rows,ks)):(h s)[i]?=some (.rows sz rows ks):=by
 unfold oslRows at hh;split at hh
 ·rename_i h1;cases hh;exact h1
 ·cases hh
theorem Rel.osl_inv [Glob] {Γ:Ctx}{m:MM}{s:ASt}{a:Act}{w:World}(hr:Rel Γ m s a w) {k i o l n:Nat}{sz:Nat}{rows:List (List V)}{ks:Option (List Nat)}{c:Value}
  (hv:VRel w (Forb Γ m) m (.osl k i o l n) c) (hh:(s.heap k)[i]?=some (.rows sz rows ks)) (hn:n=rows.length) :
  ∃ x,m k i=some x∧RowsOK w (Forb Γ m) m x sz rows ks∧o+l≤rows.length∧OslOK w x o l c:=by
 obtain ⟨x,hx,hB⟩:=hr.heap k i (.rows sz rows ks) hh;have hB:RowsOK w (Forb Γ m) m x sz rows ks:=hB;cases hv with
 | osl k i o l n c hc hv =>
  obtain ⟨h1,h2⟩:=hv x hx;obtain ⟨h3,h4⟩:=h2 (by rw [hB.hn,hn]);exact ⟨x,hx,hB,by omega,h4⟩
theorem OslOK.len {w:World}{x:MB}{o l:Nat}{c:Value}(hc:OslOK w x o l c):∃ a cap,c=.slice a l cap∧l≤cap∧cap≤maxLen:=by
 rcases hc with ⟨rfl,a,rfl⟩ | ⟨_,cap,e,n,rfl,h1,h2,_⟩
 ·exact ⟨a,0,rfl,Nat.le_refl _,Nat.zero_le _⟩
 ·exact ⟨_,cap,rfl,h1,h2⟩
theorem run_len_slice {t e:Nat}(g1:P.underlying t=some (.slice e)) (ty:Nat) (a:Option Addr) (l cap:Nat) (w:World):(Builtin.len_ #[t] ty #[.slice a l cap]).run P w=.ok (.int .i64 l) w:=by
 simp [Builtin.len_,run_underlying g1,goInt]
theorem runLen_ok [Glob] {Γ:Ctx}{m:MM}{s:ASt}{a:Act}{w:World}(hr:Rel Γ m s a w) (hT:TableOK P T) {t:Nat}{x:Operand}{c:Call}(hop:o.op=.call c) (hc1:c.callee=.builtin .len) (hc2:c.args=#[x]) (hc3:c.argTypes=#[t])
  (hk:runLen T t s.heap (evalO s.env x) K):∃ v us rd,GoodV P N o (evalO s.env) s.heap v us rd∧K v us rd:=by
 have hmem:x∈o.op.operands:=by rw [hop];simp [Op.operands,Call.operands,hc1,hc2]
 have hex:∀ (a:Act) (w:World) (v:Value),(Builtin.len_ #[t] o.type #[a.eval x]).run P w=.ok v w→(execOp a.eval o).run P w=.ok (.value v) w:=by
  intro a w v hv;simp [execOp,hop,resolve,hc1,hc2,hc3,invoke,builtin,hv]
 have hx0:=hr.evalO x;unfold runLen at hk;split at hk
 ·exact hk.elim
 ·rename_i ti hti;obtain ⟨d,i,z,g1,g2,g3,_⟩:=hT _ _ hti;split at hk
  ·rename_i e rows full hks hx;rw [hks] at g3;obtain rfl:=tkOf_sl g3;have hm:rows.length≤maxLen:=by
    rw [hx] at hx0;generalize a.eval x=c at hx0;cases hx0 with
    | nilsl=>simp
    | sl rows full sz b base cap c hF hl hm=>omega
   refine ⟨_,_,_,good_pure (fun Γ m s' a w hr ho=>?_) (by simp [V.sites]),hk hm⟩;have h1:=ho x hmem;rw [hx] at h1;generalize hc:a.eval x=c at h1;cases h1 with
   | nilsl=>exact ⟨_,hex _ _ _ (by rw [hc];exact run_len_slice g1 _ _ _ _ _),.int _ _⟩
   | sl rows full sz b base cap c hF hl hm=>exact ⟨_,hex _ _ _ (by rw [hc];exact run_len_slice g1 _ _ _ _ _),.int _ _⟩
  ·rename_i e hks hx;rw [hks] at g3;obtain rfl:=tkOf_sl g3;refine ⟨_,_,_,good_pure (fun Γ m s' a w hr ho=>?_) (by simp [V.sites]),hk⟩;have h1:=ho x hmem;rw [hx] at h1;generalize hc:a.eval x=c at h1;cases h1 with
   | nils=>exact ⟨_,hex _ _ _ (by rw [hc];exact run_len_slice g1 _ _ _ _ _),.int _ _⟩
  ·rename_i e k i o' l n hks hx;rw [hks] at g3;obtain rfl:=tkOf_sl g3;split at hk
   ·rename_i sz rows ks hh;obtain ⟨hn,hk⟩:=hk;have hm:l≤maxLen:=by
     rw [hx] at hx0;obtain ⟨y,hy,hB,hle,hos⟩:=hr.osl_inv hx0 (oslRows_some hh) hn;obtain ⟨_,cap,_,h1,h2⟩:=hos.len;omega
    refine ⟨_,_,_,GoodV.still fun Γ m s' a w hr ho hg=>?_,hk hm⟩;have h1:=hr.evalO x;rw [ho x hmem,hx] at h1;obtain ⟨y,hy,hB,hle,hos⟩:=hr.osl_inv h1 (by rw [hg k (by simp)];exact oslRows_some hh) hn;obtain ⟨b,cap,hc,_⟩:=hos.len;exact ⟨_,hex _ _ _ (by rw [hc];exact run_len_slice g1 _ _ _ _ _),.int _ _,by simp [V.sites]⟩
   ·exact hk.elim
  ·rename_i l hks hx;rw [hks] at g3;obtain rfl:=tkOf_str g3;have hm:l.length≤maxLen:=by rw [hx] at hx0;exact hx0.str_inv.2
   refine ⟨_,_,_,good_pure (fun Γ m s' a w hr ho=>?_) (by simp [V.sites]),hk hm⟩;have h1:=ho x hmem;rw [hx] at h1;refine ⟨_,hex a w (.int .i64 l.length) ?_,.int _ _⟩;rw [h1.str_inv.1];have e:(⟨l.toArray⟩:ByteArray).size=l.length:=by simp [ByteArray.size]
   simp only [Builtin.len_,Sem.run_bind,run_underlying g1,Result.andThen_ok,goInt];simp [run_underlying g1,e]
  ·rename_i k e hks hx;rw [hks] at g3;obtain rfl:=tkOf_map g3;refine ⟨_,_,_,good_pure (fun Γ m s' a w hr ho=>?_) (by simp [V.sites]),hk⟩;have h1:=ho x hmem;rw [hx] at h1;generalize hc:a.eval x=c at h1;cases h1 with
   | nilm=>exact ⟨_,hex _ _ (.int .i64 0) (by rw [hc];simp [Builtin.len_,run_underlying g1,goInt]),.int _ _⟩
  ·rename_i e hks hx;rw [hks] at g3;obtain rfl:=tkOf_sl g3;refine ⟨_,_,_,good_pure (fun Γ m s' a w hr ho=>?_) (by simp [V.sites]),hk⟩;have h1:=ho x hmem;rw [hx] at h1;generalize hc:a.eval x=c at h1;cases h1 with
   | sle=>exact ⟨_,hex _ _ _ (by rw [hc];exact run_len_slice g1 _ _ _ _ _),.int _ _⟩
  ·rename_i k e s1 i1 hks hx;rw [hks] at g3;obtain rfl:=tkOf_map g3;split at hk
   ·rename_i es clock ks hh;refine ⟨_,_,_,GoodV.still fun Γ m s' a w hr ho hg=>?_,hk⟩;have h1:=hr.evalO x;rw [ho x hmem,hx] at h1;obtain ⟨y,hy,hB⟩:=hr.heap s1 i1 _ (by rw [hg s1 (by simp)];exact hh);obtain ⟨h3,h4,ents,h5,h6,_⟩:=hB;generalize hc:a.eval x=c at h1;cases h1 with
    | omap s1 i1 c hcf hm =>
     have:=hm y hy h4;subst this;refine ⟨_,hex _ _ (.int .i64 es.length) ?_,.int _ _,by simp [V.sites]⟩;rw [hc,←h6];simp [Builtin.len_,run_underlying g1,goInt,getObj,Sem.run,h5]
   ·exact hk.elim
  ·exact hk.elim
end
end Go.Sx
namespace Go.Sx
open Go
section
variable {P:Program}{N:NB}{T:List (Nat×TI)}{o:Oper}{h:Nat→List Blk}{K:Kont}{ρ:Operand→V}
def memB (d:Nat):List Nat→Bool
 | []=>false
 | k::l=>match Nat.beq k d with | true=>true | false=>memB d l
theorem memB_false {d:Nat}{l:List Nat}(h:memB d l=false):d∉l:=by
 induction l with
 | nil=>simp
 | cons k l ih =>
  simp only [memB] at h;cases hb:Nat.beq k d with
  | true=>simp [hb] at h
  | false =>
   simp only [hb] at h;intro hm;rcases List.mem_cons.1 hm with e | e
   ·rw [e,Nat.beq_refl] at hb;cases hb
   ·exact ih h e
def cellsV (sz:Nat):V→Option (List V)
 | .agg cs=>match Nat.beq cs.length sz with | true=>some cs | false=>none
 | .tup _=>none
 | .dead=>none
 | v=>match Nat.beq sz 1 with | true=>some [v] | false=>none
theorem cellsV_rel {w:World}{F:Nat→Prop}{m:MM}{sz:Nat}{v:V}{c:Value}{cs:List V}(hc:cellsV sz v=some cs) (hv:VRel w F m v c) :
  cs.length=sz∧c.cells.size=sz∧(∀ x∈c.cells.toList,x.oneCell'=true)∧(∀ (j:Nat) u,cs[j]?=some u→u.one=true)∧∀ (j:Nat) u x,cs[j]?=some u→c.cells.toList[j]?=some x→VRel w F m u x:=by
 have single:v.one=true→v≠.dead→c.cells=#[c]→cs=[v]→sz=1→cs.length=sz∧c.cells.size=sz∧(∀ x∈c.cells.toList,x.oneCell'=true)∧(∀ (j:Nat) u,cs[j]?=some u→u.one=true)∧∀ (j:Nat) u x,cs[j]?=some u→c.cells.toList[j]?=some x→VRel w F m u x:=by
  intro h1 h2 h3 h4 h5;subst h4 h5;rw [h3];refine ⟨rfl,rfl,fun x hx=>?_,fun j u hj=>?_,fun j u x hj hx=>?_⟩
  ·simp at hx;subst hx;exact hv.oneCell h1 h2
  ·cases j with
   | zero=>simp at hj;subst hj;exact h1
   | succ j=>simp at hj
  ·cases j with
   | zero=>simp at hj hx;subst hj hx;exact hv
   | succ j=>simp at hj
 have key:∀ v',(match Nat.beq sz 1 with | true=>some [v'] | false=>none)=some cs→cs=[v']∧sz=1:=by
  intro v' hh;cases hb:Nat.beq sz 1 with
  | true=>simp only [hb] at hh;cases hh;exact ⟨rfl,Nat.eq_of_beq_eq_true hb⟩
  | false=>simp only [hb] at hh;cases hh
 cases hv with
 | agg cs' c hl ho h1 hvv =>
  simp only [cellsV] at hc;split at hc
  ·rename_i hb;have hb:=Nat.eq_of_beq_eq_true hb;cases hc;simp only [Value.cells];exact ⟨hb,by simp;omega,by simpa using ho,h1,by simpa using hvv⟩
  ·cases hc
 | tup=>simp [cellsV] at hc
 | dead=>simp [cellsV] at hc
 | bp s o c hcf hh=>obtain ⟨a,rfl⟩:=hcf;obtain ⟨h1,h2⟩:=key _ hc;exact single rfl (by simp) rfl h1 h2
 | pel s i r o n c hcf hh=>obtain ⟨a,rfl⟩:=hcf;obtain ⟨h1,h2⟩:=key _ hc;exact single rfl (by simp) rfl h1 h2
 | osl s i o l n c hcf hh=>obtain ⟨a,l',k,rfl⟩:=hcf;obtain ⟨h1,h2⟩:=key _ hc;exact single rfl (by simp) rfl h1 h2
 | oslc s i o l n cap c hcf hh=>obtain ⟨a,l',k,rfl⟩:=hcf;obtain ⟨h1,h2⟩:=key _ hc;exact single rfl (by simp) rfl h1 h2
 | omap s i c hcf hh=>obtain ⟨r,rfl⟩:=hcf;obtain ⟨h1,h2⟩:=key _ hc;exact single rfl (by simp) rfl h1 h2
 | _=>obtain ⟨h1,h2⟩:=key _ hc;exact single rfl (by simp) rfl h1 h2
theorem fresh_rows [Glob] {Γ:Ctx}{m:MM}{s:ASt}{a:Act}{w wd:World}(hr:Rel Γ m s a w) (hwd:wd.heap=w.heap∧wd.os=w.os∧TapeW wd w∧wd.output=w.output) (d:Nat) (hd:s.used d=false) (cells:Array Value) (e:TypeId)
  (sz:Nat) (rows:List (List V)) (ks:Option (List Nat)) (hlen:∀ (i:Nat) r,rows[i]?=some r→r.length=sz) (hsz:rows.length*sz≤cells.size) (hcc:∀ c∈cells,c.oneCell'=true)
  (hwi:(Blk.rows sz rows ks).within s.used)
  (hc:∀ (i:Nat) r (j:Nat) v,rows[i]?=some r→r[j]?=some v→v.one=true∧(∀ l,ks=some l→∀ k∈v.sites,k∈l)∧∃ c,cells[i*sz+j]?=some c∧c.oneCell'=true∧VRel w (Forb Γ m) m v c) :
  Rel Γ (MM.fresh m d ⟨w.heap.size,0,sz,rows.length,false⟩) (s.fresh d (.rows sz rows ks)) a (wd.alloc (.cells cells e)):=by
 obtain ⟨h1,h2,h3,h4⟩:=hwd;have hh:(wd.alloc (.cells cells e)).heap=w.heap.push (.cells cells e):=by simp [World.alloc,h1]
 have hw:∀ b,b<w.heap.size→(wd.alloc (.cells cells e)).heap[b]?=w.heap[b]?:=fun b hb=>by
  rw [hh,Array.getElem?_push,if_neg (by omega)]
 have hnew:(wd.alloc (.cells cells e)).heap[w.heap.size]?=some (.cells cells e):=by rw [hh];simp
 have hz:w.heap.size≤(wd.alloc (.cells cells e)).heap.size:=by rw [hh];simp
 refine hr.fresh d hd _ _ hw hz h2 h3 h4 (fun _=>⟨Nat.le_refl _,by rw [hh];simp⟩) hwi ?_;refine ⟨rfl,rfl,hlen,fun hn=>(by cases hn),fun _=>⟨cells,e,(0,0),hnew,fun o ho=>(by simp only at ho;omega),(by simpa using hsz),hcc⟩,fun i r j v hi hj=>?_⟩;obtain ⟨g1,g2,c,g4,g5,g6⟩:=hc i r j v hi hj;refine ⟨g1,g2,c,?_,g5,?_⟩
 ·simp only [World.cell?,hnew,Nat.zero_add];exact g4
 ·refine Rel.carryFresh (s:=s) hd hw hz (fun _=>Nat.le_refl _) (fun k hk=>?_) g6;cases ks with
  | none=>exact hwi i r j v hi hj k hk
  | some l=>exact hwi k (g2 l rfl k hk)
theorem alloc_same [Glob] (w:World):w.heap=w.heap∧w.os=w.os∧TapeW w w∧w.output=w.output:=⟨rfl,rfl,TapeW.self,rfl⟩
theorem fresh_bp {Γ:Ctx}{m:MM}{w':World}{d:Nat}{b sz:Nat}:VRel w' (Forb Γ (MM.fresh m d ⟨b,0,sz,1,false⟩)) (MM.fresh m d ⟨b,0,sz,1,false⟩) (.bp d 0) (.pointer (some ⟨b,0,none⟩)):=
 .bp _ _ _ ⟨_,rfl⟩ fun x hx=>by simp [MM.fresh] at hx;subst hx;exact ⟨Nat.le_refl _,fun _=>⟨rfl,rfl⟩⟩
theorem fresh_osl {Γ:Ctx}{m:MM}{w':World}{d:Nat}{b sz n cap k:Nat}{e:TypeId}(hl:n≤cap) (hm:cap≤maxLen) (hs:w'.shape? b=some (e,k)) (hk:cap*sz≤k) :
  VRel w' (Forb Γ (MM.fresh m d ⟨b,0,sz,n,false⟩)) (MM.fresh m d ⟨b,0,sz,n,false⟩) (.osl d 0 0 n n) (.slice (some ⟨b,0,none⟩) n cap):=
 .osl _ _ _ _ _ _ ⟨_,_,_,rfl⟩ fun x hx=>by
  simp [MM.fresh] at hx;subst hx;exact ⟨Nat.le_refl _,fun _=>⟨by omega,.inr ⟨rfl,cap,e,k,by simp,hl,hm,hs,by simpa using hk⟩⟩⟩
def runBox (T:List (Nat×TI)) (dst:Option Nat) (e:Nat) (v:V) (K:Kont):Prop:=
 match look T e,dst with
 | some ti,some d =>
  (match cellsV ti.sz v with
  | none=>False
  | some cs=>K (.bp d 0) [.fresh d (.rows ti.sz [cs] none)] [])
 | _,_=>False
theorem cellsV_sites {sz:Nat}{v:V}{cs:List V}(hc:cellsV sz v=some cs):∀ u∈cs,∀ k∈u.sites,k∈v.sites:=by
 have key:∀ v',(match Nat.beq sz 1 with | true=>some [v'] | false=>none)=some cs→∀ u∈cs,∀ k∈u.sites,k∈V.sites v':=by
  intro v' hh;cases hb:Nat.beq sz 1 with
  | true=>simp only [hb] at hh;cases hh;intro u hu k hk;simp at hu;subst hu;exact hk
  | false=>simp only [hb] at hh;cases hh
 cases v with
 | agg cs' =>
  simp only [cellsV] at hc;split at hc
  ·cases hc;intro u hu k hk;simp only [V.sites,sitesL_eq];exact List.mem_flatMap.2 ⟨u,hu,hk⟩
  ·cases hc
 | tup=>simp [cellsV] at hc
 | dead=>simp [cellsV] at hc
 | _=>exact key _ hc
theorem box_ok [Glob] {v:V}{e:Nat}{d:Nat}{ti:TI}{cs:List V}(hcs:cellsV ti.sz v=some cs)
  (g:∀ (Γ:Ctx) (m:MM) (s:ASt) (a:Act) (w:World),Rel Γ m s a w→(∀ x∈o.op.operands,evalO s.env x=ρ x)→∃ c,VRel w (Forb Γ m) m v c∧(∀ k∈v.sites,s.used k=true)∧(execOp a.eval o).run P w=.ok (.value (.pointer (some ⟨w.heap.size,0,none⟩))) (w.alloc (.cells c.cells e))) :
  GoodV P N o ρ h (.bp d 0) [.fresh d (.rows ti.sz [cs] none)] []:=by
 intro Γ m s a w hN hr ho _ hmade;obtain ⟨c,hv,hsi,hrun⟩:=g Γ m s a w hr ho;obtain ⟨h1,h2,h3,h4,h5⟩:=cellsV_rel hcs hv;have hd:s.used d=false:=hmade d (by simp [Up.made]);refine ⟨_,_,_,_,hrun,.inl rfl,fresh_rows hr (alloc_same w) d hd c.cells e ti.sz [cs] none (fun i r hi=>?_) (by simp [h2]) (fun y hy=>h3 y (by simpa using hy)) (fun i r j u hi hj k hk=>?_) (fun i r j u hi hj=>?_),fresh_bp,fun k hk=>?_⟩
 ·cases i with
  | zero=>simp at hi;subst hi;exact h1
  | succ i=>simp at hi
 ·cases i with
  | zero=>simp at hi;subst hi;exact hsi k (cellsV_sites hcs u (List.mem_of_getElem? hj) k hk)
  | succ i=>simp at hi
 ·cases i with
  | zero =>
   simp at hi;subst hi;have hlt:j<c.cells.toList.length:=by
    have:=(List.getElem?_eq_some_iff.1 hj).1;simp;omega
   refine ⟨h4 j u hj,(fun l hl=>by cases hl),c.cells.toList[j],?_,h3 _ (List.getElem_mem _),h5 j u _ hj (List.getElem?_eq_getElem hlt)⟩;simp
  | succ i=>simp at hi
 ·simp [V.sites] at hk;subst hk;simp [ASt.ups,ASt.up,ASt.fresh]
theorem runBox_ok [Glob] {e:Nat}{x:Operand}(hop:o.op=.box e x) (hk:runBox T o.dst e (ρ x) K):∃ v us rd,GoodV P N o ρ h v us rd∧K v us rd:=by
 unfold runBox at hk;split at hk
 ·rename_i ti d hti hdst;split at hk
  ·exact hk.elim
  ·rename_i cs hcs;refine ⟨_,_,_,box_ok (e:=e) hcs fun Γ m s a w hr ho=>⟨a.eval x,?_,fun k hk=>?_,?_⟩,hk⟩
   ·rw [←ho x (by simp [hop,Op.operands])];exact hr.evalO x
   ·exact hr.sitesO x k (by rw [ho x (by simp [hop,Op.operands])];exact hk)
   ·simp [execOp,hop,Instr.box,newVar,newRow]
 ·exact hk.elim
theorem zero_rel {t:Nat}{ti:TI}(hT:TOK P t ti):∃ i z,P.info? t=some i∧i.zero=some z∧ti.zero.length=ti.sz∧z.cells.size=ti.sz∧(∀ x∈z.cells.toList,x.oneCell'=true)∧(∀ (j:Nat) u,ti.zero[j]?=some u→u.one=true) ∧
  ∀ (w:World) (F:Nat→Prop) (m:MM) (j:Nat) u x,ti.zero[j]?=some u→z.cells.toList[j]?=some x→VRel w F m u x:=by
 obtain ⟨d,i,z,h1,h2,h3,h4,h5,h6,h7,h8,h9,h10⟩:=hT;refine ⟨i,z,h2,h6,by rw [h7];simpa using h8,h8,fun x hx=>?_,fun j u hj=>?_,fun w F m j u x hj hx=>?_⟩
 ·exact (Array.all_eq_true'.1 h9) x (by simpa using hx)
 ·exact List.all_eq_true.1 h10 u (List.mem_of_getElem? hj)
 ·rw [h7,List.getElem?_map,hx] at hj;simp at hj;subst hj;exact constV_rel _ _ _ x
theorem zero_sites {t:Nat}{ti:TI}(hT:TOK P t ti):∀ u∈ti.zero,u.sites=[]:=by
 obtain ⟨d,i,z,h1,h2,h3,h4,h5,h6,h7,h8,h9,h10⟩:=hT;intro u hu;rw [h7] at hu;obtain ⟨c,_,rfl⟩:=List.mem_map.1 hu;exact constV_sites c
def runAlloc (T:List (Nat×TI)) (dst:Option Nat) (e:Nat) (K:Kont):Prop:=
 match look T e,dst with
 | some ti,some d=>K (.bp d 0) [.fresh d (.rows ti.sz [ti.zero] none)] []
 | _,_=>False
theorem runAlloc_ok [Glob] (hT:TableOK P T) {e:Nat}(hop:o.op=.alloc e) (hk:runAlloc T o.dst e K):∃ v us rd,GoodV P N o ρ h v us rd∧K v us rd:=by
 unfold runAlloc at hk;split at hk
 ·rename_i ti d hti hdst;have hT:=hT _ _ hti;obtain ⟨i,z,g1,g2,g3,g4,g5,g6,g7⟩:=zero_rel hT;refine ⟨_,_,_,fun Γ m s a w hN hr ho _ hmade=>?_,hk⟩;have hd:s.used d=false:=hmade d (by simp [Up.made]);refine ⟨_,.pointer (some ⟨w.heap.size,0,none⟩),w.alloc (.cells z.cells e),_,by simp [execOp,hop,Instr.alloc,zeroValue,typeInfo,g1,g2,newVar,newRow],.inl rfl,
   fresh_rows hr (alloc_same w) d hd z.cells e ti.sz [ti.zero] none (fun i r hi=>?_) (by simp [g4]) (fun y hy=>g5 y (by simpa using hy)) (fun i r j u hi hj k hk=>?_) (fun i r j u hi hj=>?_),fresh_bp,fun k hk=>?_⟩
  ·cases i with
   | zero=>simp at hi;subst hi;exact g3
   | succ i=>simp at hi
  ·cases i with
   | zero=>simp at hi;subst hi;rw [zero_sites hT u (List.mem_of_getElem? hj)] at hk;cases hk
   | succ i=>simp at hi
  ·cases i with
   | zero =>
    simp at hi;subst hi;have hlt:j<z.cells.toList.length:=by
     have:=(List.getElem?_eq_some_iff.1 hj).1;simp;omega
    refine ⟨g6 j u hj,(fun l hl=>by cases hl),z.cells.toList[j],?_,g5 _ (List.getElem_mem _),g7 _ _ _ j u _ hj (List.getElem?_eq_getElem hlt)⟩;simp
   | succ i=>simp at hi
  ·simp [V.sites] at hk;subst hk;simp [ASt.ups,ASt.up,ASt.fresh]
 ·exact hk.elim
def splice (row:List V) (o:Nat) (cs:List V):List V:=row.take o++(cs++row.drop (o+cs.length))
def addKs (ks:Option (List Nat)) (cs:List V):Option (List Nat):=
 match ks with
 | none=>none
 | some l=>some (sitesL cs++l)
def runStore (T:List (Nat×TI)) (t:Nat) (h:Nat→List Blk) (a v:V) (K:Kont):Prop:=
 match look T t with
 | none=>False
 | some ti =>
  match cellsV ti.sz v with
  | none=>False
  | some cs =>
   match a with
   | .bp s o=>(match h s with
    | [.rows sz [row] ks]=>(match Nat.ble (o+cs.length) row.length with
     | true=>K .dead [.upd s 0 (.rows sz [splice row o cs] (addKs ks cs))] [s]
     | false=>False)
    | _=>False)
   | .pel s i r o n=>(match (h s)[i]? with
    | some (.rows sz rows ks)=>n=rows.length∧rowAt rows r fun row=>(match Nat.ble (o+cs.length) row.length with
      | true=>K .dead [.upd s i (.rows sz (rows.set r (splice row o cs)) (addKs ks cs))] [s]
      | false=>False)
    | _=>False)
   | _=>False
theorem splice_length {row cs:List V}{o:Nat}(ho:o+cs.length≤row.length):(splice row o cs).length=row.length:=by
 simp [splice];omega
theorem splice_at {row cs:List V}{o j:Nat}{v:V}(ho:o+cs.length≤row.length) (hj:(splice row o cs)[j]?=some v) :
  (o≤j∧j<o+cs.length∧cs[j-o]?=some v)∨((j<o∨o+cs.length≤j)∧row[j]?=some v):=by
 unfold splice at hj;rw [List.getElem?_append] at hj;simp only [List.length_take] at hj;rw [Nat.min_eq_left (by omega)] at hj;split at hj
 ·rename_i h1;rw [List.getElem?_take,if_pos h1] at hj;exact .inr ⟨.inl h1,hj⟩
 ·rename_i h1;rw [List.getElem?_append] at hj;split at hj
  ·rename_i h2;exact .inl ⟨by omega,by omega,hj⟩
  ·rename_i h2;rw [List.getElem?_drop] at hj;rw [show o+cs.length+(j-o-cs.length)=j by omega] at hj;exact .inr ⟨.inr (by omega),hj⟩
theorem run_storeVar {t:Nat}{ti:TI}(hT:TOK P t ti) {w:World}{b o:Nat}{c:Value}(hsz:c.cells.size=ti.sz) (h1:∀ x∈c.cells.toList,x.oneCell'=true)
  (hc:∀ j,j<ti.sz→(w.cell? ⟨b,o+j,none⟩).isSome=true) (hf:∀ j,j<ti.sz→w.frozen? ⟨b,o+j,none⟩=false) :
  (storeVar t ⟨b,o,none⟩ c).run P w=.ok () (w.setCells b o c.cells.toList):=by
 have:=run_storeCells_cells (P:=P) b o c.cells.toList 0 w (fun j hj=>by simpa using hc j (by simpa [hsz] using hj)) (fun j hj=>by simpa using hf j (by simpa [hsz] using hj)) h1;simp only [Nat.add_zero] at this;simp [storeVar,run_sizeOf hT,hsz,this]
theorem shape_setCells (b:Nat):∀ (vs:List Value) (o:Nat) (w:World) (r:Nat),(w.setCells b o vs).shape? r=w.shape? r
 | [],_,_,_=>rfl
 | v::vs,o,w,r=>by
  rw [World.setCells,shape_setCells b vs];simp only [World.shape?,World.setCell,Array.getElem?_modify];by_cases hr:b=r
  ·subst hr;simp only [if_true];cases hh:w.heap[b]? with
   | none=>rfl
   | some ob=>cases ob<;>simp
  ·simp only [hr,if_false]
theorem size_setCells (b:Nat):∀ (vs:List Value) (o:Nat) (w:World),(w.setCells b o vs).heap.size=w.heap.size
 | [],_,_=>rfl
 | v::vs,o,w=>by rw [World.setCells,size_setCells b vs];simp
theorem tape_setCells [Glob] (b:Nat):∀ (vs:List Value) (o:Nat) (w:World),TapeW (w.setCells b o vs) w
 | [],_,_=>TapeW.self
 | v::vs,o,w=>by rw [World.setCells];exact (tape_setCells b vs _ _).trans ⟨rfl,fun _=>Nat.le_refl _⟩
theorem block_setCells (b:Nat):∀ (vs:List Value) (o:Nat) (w:World) (cs:Array Value) (e:TypeId) (fz:Nat×Nat),w.heap[b]?=some (.cells cs e fz)→∃ cs',(w.setCells b o vs).heap[b]?=some (.cells cs' e fz)∧cs'.size=cs.size∧((∀ c∈vs,c.oneCell'=true)→(∀ c∈cs,c.oneCell'=true)→∀ c∈cs',c.oneCell'=true)
 | [],_,w,cs,e,fz,h=>⟨cs,h,rfl,fun _ h=>h⟩
 | v::vs,o,w,cs,e,fz,h=>by
  have h1:(w.setCell ⟨b,o,none⟩ v).heap[b]?=some (.cells (cs.setIfInBounds o v) e fz):=by
   simp [World.setCell,Array.getElem?_modify,h]
  obtain ⟨cs',h2,h3,h4⟩:=block_setCells b vs (o+1) _ _ e fz h1;refine ⟨cs',h2,by simpa using h3,fun g1 g2=>h4 (fun c hc=>g1 c (List.mem_cons_of_mem _ hc)) fun c hc=>?_⟩;obtain ⟨j,hj,rfl⟩:=Array.mem_iff_getElem.1 hc;rw [Array.getElem_setIfInBounds (by simpa using hj)];split
  ·exact g1 v (by simp)
  ·exact g2 _ (Array.getElem_mem _)
theorem rowoff {i r j j' sz:Nat}(hj:j<sz) (hj':j' < sz) (h:i*sz+j=r*sz+j'):i=r∧j=j':=by
 have hs:0<sz:=by omega
 have h1:(i*sz+j) / sz=i:=by rw [Nat.mul_comm,Nat.mul_add_div hs,Nat.div_eq_of_lt hj];omega
 have h2:(r*sz+j') / sz=r:=by rw [Nat.mul_comm,Nat.mul_add_div hs,Nat.div_eq_of_lt hj'];omega
 have h3:i=r:=by rw [←h1,←h2,h]
 subst h3;exact ⟨rfl,by omega⟩
theorem store_rel [Glob] {Γ:Ctx}{m:MM}{s:ASt}{a:Act}{w:World}(hr:Rel Γ m s a w) {k i r o' sz:Nat}{rows:List (List V)}{ks:Option (List Nat)}{row cs:List V}{x:MB}{vs:List Value}
  (hbl:(s.heap k)[i]?=some (.rows sz rows ks)) (hx:m k i=some x) (hB:RowsOK w (Forb Γ m) m x sz rows ks) (hn:x.nil=false) (hrow:rows[r]?=some row) (ho:o' + cs.length≤row.length)
  (hl:vs.length=cs.length) (h1:∀ y∈vs,y.oneCell'=true) (h11:∀ (j:Nat) u,cs[j]?=some u→u.one=true) (hv:∀ (j:Nat) u y,cs[j]?=some u→vs[j]?=some y→VRel w (Forb Γ m) m u y) (hsi:∀ u∈cs,∀ k∈u.sites,s.used k=true) :
  Rel Γ (MM.at m k i x) (s.at k i (.rows sz (rows.set r (splice row o' cs)) (addKs ks cs))) a (w.setCells x.b (x.base+r*x.sz+o') vs):=by
 obtain ⟨b1,b2,b3,b4,b5,b6⟩:=hB;obtain ⟨ccs,e,fz,hb,hfz,hsize,hc1⟩:=b5 hn;have hrl:=b3 r row hrow;have hrlt:r<rows.length:=(List.getElem?_eq_some_iff.1 hrow).1;have hwith:∀ b,b<w.heap.size→(x.nil=false→b≠x.b)→(w.setCells x.b (x.base+r*x.sz+o') vs).heap[b]?=w.heap[b]?:=fun b hb hne=>World.heap_setCells_other w x.b _ vs hb (hne hn);have hz:w.heap.size≤(w.setCells x.b (x.base+r*x.sz+o') vs).heap.size:=by rw [size_setCells];exact Nat.le_refl _
 have hs:∀ b e n,w.shape? b=some (e,n)→(w.setCells x.b (x.base+r*x.sz+o') vs).shape? b=some (e,n):=fun b e n hh=>by rw [shape_setCells];exact hh
 have carry:∀ {v c},VRel w (Forb Γ m) m v c→VRel (w.setCells x.b (x.base+r*x.sz+o') vs) (Forb Γ (MM.at m k i x)) (MM.at m k i x) v c:=fun hv=>Rel.carryAt hx (.inl rfl) hwith hz hs (fun _=>.inl ⟨hn,rfl⟩) hv;refine hr.at k i hbl hx x _ (.inl rfl) hwith hz hs (World.os_setCells w _ _ _) (tape_setCells _ _ _ _) (World.output_setCells w _ _ _) (fun _=>.inl ⟨hn,rfl⟩) ?_ ?_
 ·have hwi:=hr.useB k i _ hbl;cases ks with
  | none =>
   intro i2 r2 j v hi2 hj q hq;rw [List.getElem?_set] at hi2;split at hi2
   ·rename_i e1;subst e1;simp [hrlt] at hi2;subst hi2;rcases splice_at ho hj with ⟨_,_,g3⟩ | ⟨_,g2⟩
    ·exact hsi v (List.mem_of_getElem? g3) q hq
    ·exact hwi _ _ _ _ hrow g2 q hq
   ·exact hwi _ _ _ _ hi2 hj q hq
  | some l =>
   intro q hq;rcases List.mem_append.1 hq with hq | hq
   ·rw [sitesL_eq] at hq;obtain ⟨u,hu,hq⟩:=List.mem_flatMap.1 hq;exact hsi u hu q hq
   ·exact hwi q hq
 have hin:∀ (i:Nat) r (j:Nat),rows[i]?=some r→j<sz→i*sz+j<rows.length*sz:=fun i r j hi hj=>by
  have:i<rows.length:=(List.getElem?_eq_some_iff.1 hi).1
  calc i*sz+j<i*sz+sz:=by omega
   _=(i+1)*sz:=by rw [Nat.add_mul,Nat.one_mul]
   _≤rows.length*sz:=Nat.mul_le_mul_right _ (by omega)
 refine ⟨b1,by simpa using b2,fun i2 r2 hi2=>?_,fun hh=>(by rw [hn] at hh;cases hh),fun _=>?_,fun i2 r2 j v hi2 hj=>?_⟩
 ·rw [List.getElem?_set] at hi2;split at hi2
  ·rename_i e1;simp [hrlt] at hi2;obtain ⟨_,rfl⟩:=hi2;rw [splice_length ho];exact hrl
  ·exact b3 i2 r2 hi2
 ·obtain ⟨cs',g1,g2,g3⟩:=block_setCells x.b vs (x.base+r*x.sz+o') w ccs e fz hb;exact ⟨cs',e,fz,g1,hfz,by rw [g2];simpa using hsize,g3 h1 hc1⟩
 ·have old:∀ (row2:List V),rows[i2]?=some row2→row2[j]?=some v→(i2≠r∨(j<o'∨o' + cs.length≤j))→CellOK (w.setCells x.b (x.base+r*x.sz+o') vs) (Forb Γ (MM.at m k i x)) (MM.at m k i x) (addKs ks cs) v ⟨x.b,x.base+i2*sz+j,none⟩:=by
   intro row2 hr2 hj2 hne;obtain ⟨g1,g2,c,g3,g4,g5⟩:=b6 i2 row2 j v hr2 hj2;have hjs:j<sz:=by rw [←b3 i2 row2 hr2];exact (List.getElem?_eq_some_iff.1 hj2).1
   refine ⟨g1,fun l hl2=>?_,c,?_,g4,carry g5⟩
   ·cases ks with
    | none=>cases hl2
    | some l0=>simp [addKs] at hl2;subst hl2;exact fun s hs=>List.mem_append_right _ (g2 l0 rfl s hs)
   ·rw [World.cell?_setCells_out]
    ·exact g3
    ·intro _ _;simp only [hl,b1];rcases Nat.lt_or_ge (x.base+i2*sz+j) (x.base+r*sz+o') with hlt | hge
     ·exact .inl hlt
     ·refine .inr ?_;rcases Nat.lt_or_ge (x.base+i2*sz+j) (x.base+r*sz+o' + cs.length) with hlt2 | hge2
      ·exfalso;have he:=rowoff (i:=i2) (r:=r) (j:=j) (j':=i2*sz+j-r*sz) hjs (by omega) (by omega);omega
      ·exact hge2
  rw [List.getElem?_set] at hi2;split at hi2
  ·rename_i e1;subst e1;simp [hrlt] at hi2;subst hi2;rcases splice_at ho hj with ⟨g1,g2,g3⟩ | ⟨g1,g2⟩
   ·have hjv:j-o' < vs.length:=by omega
    have hvj:=List.getElem?_eq_getElem hjv;refine ⟨h11 _ _ g3,fun l hl2=>?_,vs[j-o'],?_,h1 _ (List.getElem_mem _),carry (hv _ _ _ g3 hvj)⟩
    ·cases ks with
     | none=>cases hl2
     | some l0=>simp [addKs] at hl2;subst hl2;exact fun s hs=>List.mem_append_left _ (by rw [sitesL_eq];exact List.mem_flatMap.2 ⟨v,List.mem_of_getElem? g3,hs⟩)
    ·have:=World.cell?_setCells_in x.b vs (x.base+r*x.sz+o') w (fun j2 hj2=>by
      have hlt2:=hin r row (o' + j2) hrow (by omega)
      simp only [World.cell?,hb]
      simp
      rw [b1]
      omega) (j-o') hjv
     rw [show x.base+r*x.sz+o' + (j-o')=x.base+r*sz+j by rw [b1];omega] at this;exact this
   ·exact old row hrow g2 (.inr g1)
  ·rename_i e1;exact old r2 hi2 hj (.inl fun e=>e1 e.symm)
theorem runStore_ok [Glob] (hT:TableOK P T) {t:Nat}{x y:Operand}(hop:o.op=.store t x y) (hk:runStore T t h (ρ x) (ρ y) K):∃ v us rd,GoodV P N o ρ h v us rd∧K v us rd:=by
 unfold runStore at hk;split at hk
 ·exact hk.elim
 ·rename_i ti hti;have hT:=hT _ _ hti;split at hk
  ·exact hk.elim
  ·rename_i cs hcs;have go:∀ (Γ:Ctx) (m:MM) (s:ASt) (a:Act) (w:World) (k i r o' sz:Nat) (rows:List (List V)) (ks:Option (List Nat)) (row:List V) (q:MB),Rel Γ m s a w→VRel w (Forb Γ m) m (ρ y) (a.eval y) →
     (s.heap k)[i]?=some (.rows sz rows ks)→m k i=some q→RowsOK w (Forb Γ m) m q sz rows ks→q.nil=false→rows[r]?=some row→o' + cs.length≤row.length→a.eval x=.pointer (some ⟨q.b,q.base+r*q.sz+o',none⟩) →
     (∀ k∈(ρ y).sites,s.used k=true)→∃ nx c w' m',(execOp a.eval o).run P w=.ok nx w'∧(nx=.value c∨(nx=.skip∧c=undef))∧Rel Γ m' (s.at k i (.rows sz (rows.set r (splice row o' cs)) (addKs ks cs))) a w'∧VRel w' (Forb Γ m') m' .dead c∧∀ k∈V.sites .dead,s.used k=true:=by
    intro Γ m s a w k i r o' sz rows ks row q hr hvy hh hq hB hn hrow ho hc hsy;obtain ⟨g1,g2,g3,g4,g5⟩:=cellsV_rel hcs hvy;obtain ⟨b1,b2,b3,b4,b5,b6⟩:=hB;obtain ⟨ccs,e,fz,hb,hfz,hsize,hc1⟩:=b5 hn;have hrl:=b3 r row hrow;have hrlt:r<rows.length:=(List.getElem?_eq_some_iff.1 hrow).1;have hin:∀ j,j<ti.sz→q.base+r*q.sz+o' + j<ccs.size:=fun j hj=>by
     have:r*sz+(o' + j)<rows.length*sz:=by
      calc r*sz+(o' + j)<r*sz+sz:=by omega
       _=(r+1)*sz:=by rw [Nat.add_mul,Nat.one_mul]
       _≤rows.length*sz:=Nat.mul_le_mul_right _ (by omega)
     rw [b1];omega
    have hrun:=run_storeVar hT (w:=w) (b:=q.b) (o:=q.base+r*q.sz+o') g2 g3 (fun j hj=>by
      simp only [World.cell?,hb];simp;exact hin j hj) (fun j hj=>by
      simp only [World.frozen?,hb]
      have:=hfz (q.base+r*q.sz+o' + j)
      simp only [Bool.and_eq_false_iff,decide_eq_false_iff_not]
      simp only [Decidable.not_and_iff_or_not] at this
      exact this)
    refine ⟨.skip,undef,_,_,?_,.inr ⟨rfl,rfl⟩,store_rel hr hh hq ⟨b1,b2,b3,b4,b5,b6⟩ hn hrow ho (by simp [g2,g1]) g3 g4 g5 (fun u hu k hk=>hsy k (cellsV_sites hcs u hu k hk)),.dead _,by simp [V.sites]⟩;simp [execOp,hop,hc,Instr.storeAt,Instr.sureAddr,hrun]
   split at hk
   ·rename_i k o' hx;split at hk
    ·rename_i sz row ks hh;split at hk
     ·rename_i hle;refine ⟨_,_,_,fun Γ m s a w hN hr ho hg _=>?_,hk⟩;have hvx:=hr.evalO x;have hvy:=hr.evalO y;rw [ho x (by simp [hop,Op.operands]),hx] at hvx;rw [ho y (by simp [hop,Op.operands])] at hvy;have hh':s.heap k=[.rows sz [row] ks]:=by rw [hg k (by simp)];exact hh
      obtain ⟨q,hq,hn,hc,hB⟩:=hr.bp_inv hvx hh';exact go Γ m s a w k 0 0 o' sz [row] ks row q hr hvy (by rw [hh'];rfl) hq hB hn rfl (Nat.le_of_ble_eq_true hle) (by simpa using hc) (fun k hk=>hr.sitesO y k (by rw [ho y (by simp [hop,Op.operands])];exact hk))
     ·exact hk.elim
    ·exact hk.elim
   ·rename_i k i r o' n hx;split at hk
    ·rename_i sz rows ks hh;obtain ⟨hn,hk⟩:=hk;obtain ⟨row,hrow,hk⟩:=rowAt_elim hk;split at hk
     ·rename_i hle;refine ⟨_,_,_,fun Γ m s a w hN hr ho hg _=>?_,hk⟩;have hvx:=hr.evalO x;have hvy:=hr.evalO y;rw [ho x (by simp [hop,Op.operands]),hx] at hvx;rw [ho y (by simp [hop,Op.operands])] at hvy;have hh':(s.heap k)[i]?=some (.rows sz rows ks):=by rw [hg k (by simp)];exact hh
      obtain ⟨q,hq,hnil,hc,hB⟩:=hr.pel_inv hvx hh' hn;exact go Γ m s a w k i r o' sz rows ks row q hr hvy hh' hq hB hnil hrow (Nat.le_of_ble_eq_true hle) hc (fun k hk=>hr.sitesO y k (by rw [ho y (by simp [hop,Op.operands])];exact hk))
     ·exact hk.elim
    ·exact hk.elim
   ·exact hk.elim
end
end Go.Sx
namespace Go.Sx
open Go
section
variable {P:Program}{N:NB}{T:List (Nat×TI)}{o:Oper}{h:Nat→List Blk}{K:Kont}{ρ:Operand→V}
theorem fold_set (off:Nat):∀ (l:List Value) (i:Nat) (cs:Array Value),off+i+l.length≤cs.size →
  ((l.zipIdx i).foldl (fun cs p=>cs.setIfInBounds (off+p.2) p.1) cs).size=cs.size ∧
  ∀ p,((l.zipIdx i).foldl (fun cs p=>cs.setIfInBounds (off+p.2) p.1) cs)[p]?=if off+i≤p∧p<off+i+l.length then l[p-(off+i)]? else cs[p]?
 | [],i,cs,_=>⟨rfl,fun p=>by rw [if_neg (by simp only [List.length_nil];omega)];rfl⟩
 | v::l,i,cs,hl=>by
  simp only [List.length_cons] at hl;obtain ⟨h1,h2⟩:=fold_set off l (i+1) (cs.setIfInBounds (off+i) v) (by simp;omega);simp only [List.zipIdx_cons,List.foldl_cons];refine ⟨by rw [h1];simp,fun p=>?_⟩;rw [h2];simp only [List.length_cons];by_cases hp:p=off+i
  ·subst hp;rw [if_neg (by omega),if_pos (by omega)];simp only [Nat.sub_self,List.getElem?_cons_zero];rw [Array.getElem?_setIfInBounds_self_of_lt (by omega)]
  ·rw [Array.getElem?_setIfInBounds_ne (by omega)];by_cases hc:off+(i+1)≤p∧p<off+(i+1)+l.length
   ·rw [if_pos hc,if_pos (by omega),show p-(off+i)=(p-(off+(i+1)))+1 by omega];simp
   ·rw [if_neg hc,if_neg (by omega)]
def fillV (place:Nat→Option (Nat×Nat)) (row:List V):List (Nat×V)→Option (List V)
 | []=>some row
 | (i,v)::ps =>
  match place i with
  | none=>none
  | some (off,sz) =>
   match cellsV sz v with
   | none=>none
   | some cs=>match Nat.ble (off+cs.length) row.length with
    | true=>fillV place (splice row off cs) ps
    | false=>none
structure FillRel (w:World) (F:Nat→Prop) (m:MM) (row:List V) (cs:Array Value):Prop where
 len:row.length=cs.size
 one:∀ x∈cs.toList,x.oneCell'=true
 vone:∀ (j:Nat) v,row[j]?=some v→v.one=true
 rel:∀ (j:Nat) v c,row[j]?=some v→cs[j]?=some c→VRel w F m v c
theorem fill_step {w:World}{F:Nat→Prop}{m:MM}{row:List V}{cs:Array Value}(hr:FillRel w F m row cs) {sz off:Nat}{v:V}{c:Value}{vs:List V}(hv:VRel w F m v c) (hc:cellsV sz v=some vs) (hle:off+vs.length≤row.length) :
  FillRel w F m (splice row off vs) (c.cells.zipIdx.foldl (fun cs (p:Value×Nat)=>cs.setIfInBounds (off+p.2) p.1) cs):=by
 obtain ⟨g1,g2,g3,g4,g5⟩:=cellsV_rel hc hv;have hf:=fold_set off c.cells.toList 0 cs (by simp;rw [←hr.len];omega);have he:c.cells.zipIdx.foldl (fun cs (p:Value×Nat)=>cs.setIfInBounds (off+p.2) p.1) cs=(c.cells.toList.zipIdx 0).foldl (fun cs p=>cs.setIfInBounds (off+p.2) p.1) cs:=by
  rw [←Array.foldl_toList];simp
 rw [he];obtain ⟨f1,f2⟩:=hf;have hsl:(splice row off vs).length=row.length:=splice_length hle;refine ⟨by rw [f1,hsl];exact hr.len,fun x hx=>?_,fun j u hj=>?_,fun j u x hj hx=>?_⟩
 ·obtain ⟨p,hp⟩:=List.getElem?_of_mem hx;have hp':((c.cells.toList.zipIdx 0).foldl (fun cs p=>cs.setIfInBounds (off+p.2) p.1) cs)[p]?=some x:=by simpa using hp
  rw [f2] at hp';split at hp'
  ·exact g3 x (List.mem_of_getElem? hp')
  ·exact hr.one x (by have:=Array.mem_of_getElem? hp';simpa using this)
 ·rcases splice_at hle hj with ⟨_,_,h3⟩ | ⟨_,h2⟩
  ·exact g4 _ _ h3
  ·exact hr.vone _ _ h2
 ·rw [f2] at hx;rcases splice_at hle hj with ⟨h1,h2,h3⟩ | ⟨h1,h2⟩
  ·rw [if_pos ⟨by omega,by simp;omega⟩] at hx;exact g5 _ _ _ h3 (by simpa using hx)
  ·rw [if_neg (by simp;omega)] at hx;exact hr.rel _ _ _ h2 hx
theorem fill_ok {w:World}{F:Nat→Prop}{m:MM}{place:Nat→Option (Nat×Nat)}:∀ (ps:List (Nat×V)) (cps:List (Nat×Value)) (row row':List V) (cs:Array Value),FillRel w F m row cs→fillV place row ps=some row' →
  ps.length=cps.length→(∀ (j:Nat) p q,ps[j]?=some p→cps[j]?=some q→p.1=q.1∧VRel w F m p.2 q.2)→∃ cs',Instr.fill place cs cps=some cs'∧FillRel w F m row' cs'
 | [],[],row,row',cs,hr,h,_,_=>by simp [fillV] at h;subst h;exact ⟨cs,by simp [Instr.fill],hr⟩
 | [],_::_,_,_,_,_,_,hl,_=>by simp at hl
 | _::_,[],_,_,_,_,_,hl,_=>by simp at hl
 | (i,v)::ps,(i',c)::cps,row,row',cs,hr,h,hl,hall=>by
  obtain ⟨hi,hv⟩:=hall 0 _ _ rfl rfl;simp only at hi hv;subst hi;simp only [fillV] at h;split at h
  ·cases h
  ·rename_i off sz hp;split at h
   ·cases h
   ·rename_i vs hvs;split at h
    ·rename_i hle;have hle:=Nat.le_of_ble_eq_true hle;obtain ⟨g1,g2,g3,g4,g5⟩:=cellsV_rel hvs hv;obtain ⟨cs',h1,h2⟩:=fill_ok ps cps _ row' _ (fill_step hr hv hvs hle) h (by simpa using hl) (fun j p q hj hq=>hall (j+1) p q (by simpa using hj) (by simpa using hq));refine ⟨cs',?_,h2⟩;simp only [Instr.fill,hp];have hn:(c.cells.size≠sz||decide (off+c.cells.size > cs.size))=false:=by
      have:=hr.len;simp [g2];omega
     simp only [g2] at hn ⊢;rw [if_neg (by simpa using hn)];exact h1
    ·cases h
theorem fillV_sites {place:Nat→Option (Nat×Nat)}:∀ (ps:List (Nat×V)) (row row':List V),fillV place row ps=some row'→∀ u∈row',∀ k∈u.sites,(∃ u'∈row,k∈u'.sites)∨∃ p∈ps,k∈p.2.sites
 | [],row,row',h,u,hu,k,hk=>by simp [fillV] at h;subst h;exact .inl ⟨u,hu,hk⟩
 | (i,v)::ps,row,row',h,u,hu,k,hk=>by
  simp only [fillV] at h;split at h
  ·cases h
  ·split at h
   ·cases h
   ·rename_i vs hvs;split at h
    ·rename_i hle;have hle:=Nat.le_of_ble_eq_true hle;rcases fillV_sites ps _ row' h u hu k hk with ⟨u',hu',hk'⟩ | ⟨p,hp,hk'⟩
     ·obtain ⟨j,hj⟩:=List.getElem?_of_mem hu';rcases splice_at hle hj with ⟨_,_,h3⟩ | ⟨_,h2⟩
      ·exact .inr ⟨(i,v),by simp,cellsV_sites hvs u' (List.mem_of_getElem? h3) k hk'⟩
      ·exact .inl ⟨u',List.mem_of_getElem? h2,hk'⟩
     ·exact .inr ⟨p,List.mem_cons_of_mem _ hp,hk'⟩
    ·cases h
theorem zero_fill {t:Nat}{ti:TI}(hT:TOK P t ti):∃ i z,P.info? t=some i∧i.zero=some z∧∀ (w:World) (F:Nat→Prop) (m:MM),FillRel w F m ti.zero z.cells:=by
 obtain ⟨i,z,h1,h2,h3,h4,h5,h6,h7⟩:=zero_rel hT;exact ⟨i,z,h1,h2,fun w F m=>⟨by rw [h3,h4],h5,h6,fun j v c hj hc=>h7 w F m j v c hj (by simpa using hc)⟩⟩
def inTable (T:List (Nat×TI)):List (Nat×Nat)→Bool
 | []=>true
 | (_,t)::fs=>match look T t with | some _=>inTable T fs | none=>false
def placeOf (T:List (Nat×TI)) (fs:List (Nat×Nat)) (i:Nat):Option (Nat×Nat):=
 match fs[i]? with
 | none=>none
 | some (off,t)=>match look T t with | none=>none | some ti=>some (off,ti.sz)
def runBuild (T:List (Nat×TI)) (t:Nat) (parts:List (Nat×V)) (K:Kont):Prop:=
 match look T t with
 | some ⟨.st fs,_,_,z⟩ =>
  (match inTable T fs with
  | false=>False
  | true=>match fillV (placeOf T fs) z parts with | some cs=>K (.agg cs) [] [] | none=>False)
 | some ⟨.arr _ e,_,_,z⟩ =>
  (match look T e with
  | none=>False
  | some ti=>match fillV (fun i=>some (i*ti.sz,ti.sz)) z parts with | some cs=>K (.agg cs) [] [] | none=>False)
 | _=>False
theorem run_places (hT:TableOK P T):∀ (fields:List Field),inTable T (fields.map fun f=>(f.offset,f.type))=true→∀ w:World,∃ l:List (Nat×Nat),
  (fields.mapM fun f=>(do pure (f.offset,←sizeOf f.type):Sem (Nat×Nat))).run P w=.ok l w∧∀ i,l[i]?=placeOf T (fields.map fun f=>(f.offset,f.type)) i
 | [],_,w=>⟨[],by simp,fun i=>by simp [placeOf]⟩
 | f::fields,h,w=>by
  simp only [List.map_cons,inTable] at h;split at h
  ·rename_i ti hti;obtain ⟨l,h1,h2⟩:=run_places hT fields h w;refine ⟨(f.offset,ti.sz)::l,?_,fun i=>?_⟩
   ·rw [List.mapM_cons];simp only [Sem.run_bind,run_sizeOf (hT _ _ hti),Result.andThen_ok,Sem.run_pure];rw [h1];rfl
   ·cases i with
    | zero=>simp [placeOf,hti]
    | succ i =>
     have:=h2 i;simp only [placeOf,List.getElem?_cons_succ,List.map_cons] at this ⊢;exact this
  ·cases h
theorem runBuild_ok [Glob] (hT:TableOK P T) {t:Nat}{ps:Array (Nat×Operand)}(hop:o.op=.build t ps) (hk:runBuild T t (ps.toList.map fun p=>(p.1,ρ p.2)) K):∃ v us rd,GoodV P N o ρ h v us rd∧K v us rd:=by
 have hmem:∀ p∈ps.toList,p.2∈o.op.operands:=fun p hp=>by
  simp only [hop,Op.operands];exact List.mem_toArray.2 (List.mem_map.2 ⟨p,hp,rfl⟩)
 have hsit:∀ {place:Nat→Option (Nat×Nat)}{z cs:List V},(∀ u∈z,u.sites=[])→fillV place z (ps.toList.map fun p=>(p.1,ρ p.2))=some cs→∀ k∈(V.agg cs).sites,∃ x∈o.op.operands,k∈(ρ x).sites:=by
  intro place z cs hz hf k hk;simp only [V.sites,sitesL_eq,List.mem_flatMap] at hk;obtain ⟨u,hu,hk⟩:=hk;rcases fillV_sites _ _ _ hf u hu k hk with ⟨u',hu',hk'⟩ | ⟨p,hp,hk'⟩
  ·rw [hz u' hu'] at hk';cases hk'
  ·obtain ⟨q,hq,rfl⟩:=List.mem_map.1 hp;exact ⟨q.2,hmem q hq,hk'⟩
 have hrel:∀ {w:World}{F:Nat→Prop}{m:MM}{a:Act},(∀ x∈o.op.operands,VRel w F m (ρ x) (a.eval x))→∀ (j:Nat) p q,(ps.toList.map fun p=>(p.1,ρ p.2))[j]?=some p→(ps.map fun (p:Nat×Operand)=>(p.1,a.eval p.2)).toList[j]?=some q→p.1=q.1∧VRel w F m p.2 q.2:=by
  intro w F m a ho j p q hp hq;simp only [Array.toList_map,List.getElem?_map,Option.map_eq_some_iff] at hp hq;obtain ⟨x,hx,rfl⟩:=hp;obtain ⟨y,hy,rfl⟩:=hq;rw [hx] at hy;cases hy;exact ⟨rfl,ho _ (hmem x (List.mem_of_getElem? hx))⟩
 unfold runBuild at hk;split at hk
 ·rename_i fs sz bytes z hti;split at hk
  ·exact hk.elim
  ·rename_i hin;split at hk
   ·rename_i cs hf;have hT1:=hT _ _ hti;refine ⟨_,[],[],good_pure (fun Γ m s a w hr ho=>?_) (hsit (zero_sites hT1) hf),hk⟩;obtain ⟨i,zv,z1,z2,z3⟩:=zero_fill hT1;obtain ⟨d,i',z',g1,g2,g3,_⟩:=hT1;obtain ⟨fields,rfl,rfl⟩:=tkOf_st g3;obtain ⟨l,p1,p2⟩:=run_places hT fields.toList hin w;have hpl:placeOf T (fields.toList.map fun f=>(f.offset,f.type))=fun (i:Nat)=>l[i]?:=by funext i;exact (p2 i).symm
    obtain ⟨cs',f1,f2⟩:=fill_ok _ (ps.map fun (p:Nat×Operand)=>(p.1,a.eval p.2)).toList _ _ _ (z3 w (Forb Γ m) m) hf (by simp) (hrel ho);refine ⟨.agg cs',?_,?_⟩
    ·have hmm:(fields.mapM fun f=>(do pure (f.offset,←sizeOf f.type):Sem (Nat×Nat))).run P w=.ok l.toArray w:=by
      rw [Array.mapM_eq_mapM_toList,Sem.run_map,p1];rfl
     simp only [execOp,hop,Instr.build,Sem.run_bind,zeroValue,typeInfo,run_program,Result.andThen_ok,z1,Sem.run_pure,z2,run_underlying g1];rw [hmm];simp only [Result.andThen_ok];rw [hpl] at f1;have:(fun (x:Nat)=>l.toArray[x]?)=fun (i:Nat)=>l[i]?:=by funext i;simp
     rw [this,f1];rfl
    ·have:=f2.len;have harr:cs'=cs'.toList.toArray:=by simp
     rw [harr];exact .agg _ _ (by simpa using this) (by simpa using f2.one) f2.vone (fun j v x hj hx=>f2.rel j v x hj (by simpa using hx))
   ·exact hk.elim
 ·rename_i n e sz bytes z hti;split at hk
  ·exact hk.elim
  ·rename_i ti he;split at hk
   ·rename_i cs hf;have hT1:=hT _ _ hti;refine ⟨_,[],[],good_pure (fun Γ m s a w hr ho=>?_) (hsit (zero_sites hT1) hf),hk⟩;obtain ⟨i,zv,z1,z2,z3⟩:=zero_fill hT1;obtain ⟨d,i',z',g1,g2,g3,_⟩:=hT1;have:=tkOf_arr g3;subst this;obtain ⟨cs',f1,f2⟩:=fill_ok _ (ps.map fun (p:Nat×Operand)=>(p.1,a.eval p.2)).toList _ _ _ (z3 w (Forb Γ m) m) hf (by simp) (hrel ho);refine ⟨.agg cs',?_,?_⟩
    ·simp only [execOp,hop,Instr.build,Sem.run_bind,zeroValue,typeInfo,run_program,Result.andThen_ok,z1,Sem.run_pure,z2,run_underlying g1,run_sizeOf (hT _ _ he)];rw [f1];rfl
    ·have:=f2.len;have harr:cs'=cs'.toList.toArray:=by simp
     rw [harr];exact .agg _ _ (by simpa using this) (by simpa using f2.one) f2.vone (fun j v x hj hx=>f2.rel j v x hj (by simpa using hx))
   ·exact hk.elim
 ·exact hk.elim
end
end Go.Sx
namespace Go.Sx
open Go
section
variable {P:Program}{N:NB}{T:List (Nat×TI)}{o:Oper}{h:Nat→List Blk}{K:Kont}{ρ:Operand→V}
theorem shape_alloc_new (w:World) (c:Array Value) (e:TypeId):(w.alloc (.cells c e)).shape? w.heap.size=some (e,c.size):=by
 have:(w.alloc (.cells c e)).heap[w.heap.size]?=some (.cells c e):=by
  show (w.heap.push (.cells c e))[w.heap.size]?=_;simp
 unfold World.shape?;rw [this]
def chunks (sz:Nat):Nat→List V→List (List V)
 | 0,_=>[]
 | n+1,l=>l.take sz::chunks sz n (l.drop sz)
theorem chunks_get {sz:Nat}:∀ (n:Nat) (l:List V) (i:Nat) r,(chunks sz n l)[i]?=some r→i<n∧r=(l.drop (i*sz)).take sz
 | 0,l,i,r,h=>by simp [chunks] at h
 | n+1,l,0,r,h=>by simp [chunks] at h;subst h;simp
 | n+1,l,i+1,r,h=>by
  simp only [chunks,List.getElem?_cons_succ] at h;obtain ⟨h1,h2⟩:=chunks_get n _ i r h;refine ⟨by omega,?_⟩;rw [h2,List.drop_drop,show sz+i*sz=(i+1)*sz by rw [Nat.add_mul,Nat.one_mul,Nat.add_comm]]
theorem chunks_length {sz:Nat}:∀ (n:Nat) (l:List V),(chunks sz n l).length=n
 | 0,_=>rfl
 | n+1,l=>by simp [chunks,chunks_length n]
theorem replicate_flat {α:Type}{z:List α}{sz:Nat}(hz:z.length=sz):∀ (n p:Nat),((List.replicate n z).flatten)[p]?=if p<n*sz then z[p % sz]? else none
 | 0,p=>by simp
 | n+1,p=>by
  rw [List.replicate_succ,List.flatten_cons,List.getElem?_append,hz];by_cases hp:p<sz
  ·rw [if_pos hp,if_pos (by rw [Nat.add_mul];omega),Nat.mod_eq_of_lt hp]
  ·rw [if_neg hp,replicate_flat hz n];have h1:(p-sz) % sz=p % sz:=by
    rw [Nat.mod_eq_sub_mod (by omega:p ≥ sz)]
   by_cases hq:p-sz<n*sz
   ·rw [if_pos hq,if_pos (by rw [Nat.add_mul];omega),h1]
   ·rw [if_neg hq,if_neg (by rw [Nat.add_mul];omega)]
def runBuildSlice (T:List (Nat×TI)) (dst:Option Nat) (t len:Nat) (parts:List (Nat×V)) (K:Kont):Prop:=
 match look T t,dst with
 | some ⟨.sl e,_,_,_⟩,some d =>
  (match look T e with
  | none=>False
  | some ti=>match Nat.ble (len*ti.sz) 16777216&&Nat.ble len 16777216 with
   | false=>False
   | true=>match fillV (fun i=>some (i*ti.sz,ti.sz)) ((List.replicate len ti.zero).flatten) parts with
    | some flat=>K (.osl d 0 0 len len) [.fresh d (.rows ti.sz (chunks ti.sz len flat) none)] []
    | none=>False)
 | _,_=>False
theorem runBuildSlice_ok [Glob] (hT:TableOK P T) {t len:Nat}{ps:Array (Nat×Operand)}(hop:o.op=.buildSlice t len ps) (hk:runBuildSlice T o.dst t len (ps.toList.map fun p=>(p.1,ρ p.2)) K):∃ v us rd,GoodV P N o ρ h v us rd∧K v us rd:=by
 have hmem:∀ p∈ps.toList,p.2∈o.op.operands:=fun p hp=>by
  simp only [hop,Op.operands];exact List.mem_toArray.2 (List.mem_map.2 ⟨p,hp,rfl⟩)
 unfold runBuildSlice at hk;split at hk
 ·rename_i e sz bytes z d hti hdst;split at hk
  ·exact hk.elim
  ·rename_i ti he;split at hk
   ·exact hk.elim
   ·rename_i hsz;simp only [Bool.and_eq_true] at hsz;have hlm:=Nat.le_of_ble_eq_true hsz.2;have hsz:=Nat.le_of_ble_eq_true hsz.1;split at hk
    ·rename_i flat hf;have hT1:=hT _ _ hti;have hT2:=hT _ _ he;refine ⟨_,_,_,fun Γ m s a w hN hr ho _ hmade=>?_,hk⟩;have hd:s.used d=false:=hmade d (by simp [Up.made]);obtain ⟨d0,i',z',g1,g2,g3,_⟩:=hT1;have:=tkOf_sl g3;subst this;obtain ⟨i,zv,z1,z2,z3,z4,z5,z6,z7⟩:=zero_rel hT2
     let cs0:Array Value:=(Array.range (len*ti.sz)).map fun p=>(if len*ti.sz=0 then #[] else zv.cells)[p % (if len*ti.sz=0 then #[] else zv.cells).size]!
     have hcs0:∀ p,p<len*ti.sz→cs0[p]?=zv.cells[p % ti.sz]?∧p % ti.sz<zv.cells.size:=by
      intro p hp;have hne:len*ti.sz≠0:=by omega
      have hpos:0<ti.sz:=Nat.pos_of_ne_zero fun e=>hne (by rw [e];simp);have hlt:p % ti.sz<zv.cells.size:=by rw [z4];exact Nat.mod_lt _ hpos
      refine ⟨?_,hlt⟩;simp only [cs0,hne,if_false,z4];rw [Array.getElem?_map];simp [hp,hlt]
     have hfr:FillRel w (Forb Γ m) m ((List.replicate len ti.zero).flatten) cs0:=by
      refine ⟨by simp [cs0,z3],fun x hx=>?_,fun j v hj=>?_,fun j v c hj hc=>?_⟩
      ·obtain ⟨p,hp⟩:=List.getElem?_of_mem hx;have hp':cs0[p]?=some x:=by simpa using hp
       have hlt:p<len*ti.sz:=by
        have:=(Array.getElem?_eq_some_iff.1 hp').1;simpa [cs0] using this
       rw [(hcs0 p hlt).1] at hp';exact z5 x (by have:=Array.mem_of_getElem? hp';simpa using this)
      ·rw [replicate_flat z3] at hj;split at hj
       ·exact z6 _ _ hj
       ·cases hj
      ·rw [replicate_flat z3] at hj;split at hj
       ·rename_i hlt;rw [(hcs0 j hlt).1] at hc;exact z7 _ _ _ _ _ _ hj (by simpa using hc)
       ·cases hj
     obtain ⟨cs',f1,f2⟩:=fill_ok _ (ps.map fun (p:Nat×Operand)=>(p.1,a.eval p.2)).toList _ _ _ hfr hf (by simp) (fun j p q hp hq=>by
      simp only [Array.toList_map,List.getElem?_map,Option.map_eq_some_iff] at hp hq
      obtain ⟨x,hx,rfl⟩:=hp
      obtain ⟨y,hy,rfl⟩:=hq
      rw [hx] at hy;cases hy
      refine ⟨rfl,?_⟩
      rw [←ho _ (hmem x (List.mem_of_getElem? hx))]
      exact hr.evalO _)
     have hlen':flat.length=len*ti.sz:=by
      have h1:=f2.len;have h2:∀ (ps:List (Nat×V)) (row row':List V),fillV (fun i=>some (i*ti.sz,ti.sz)) row ps=some row'→row'.length=row.length:=by
       intro ps
       induction ps with
       | nil=>intro row row' h;simp [fillV] at h;rw [h]
       | cons p ps ih =>
        intro row row' h;obtain ⟨i,v⟩:=p;simp only [fillV] at h;split at h
        ·cases h
        ·split at h
         ·rename_i hle;rw [ih _ _ h,splice_length (Nat.le_of_ble_eq_true hle)]
         ·cases h
      rw [h2 _ _ _ hf];simp [z3]
     have hrun:(execOp a.eval o).run P w=.ok (.value (.slice (some ⟨w.heap.size,0,none⟩) len len)) (w.alloc (.cells cs' e)):=by
      have hnl:¬ (len*ti.sz > 2 ^ 24):=by
       have:(2:Nat) ^ 24=16777216:=by decide
       omega
      by_cases h0:len*ti.sz=0
      ·have hcs:(Array.map (fun x=>(#[]:Array Value)[x % (#[]:Array Value).size]!) (Array.range (len*ti.sz)))=cs0:=by simp only [cs0,h0,if_true]
       simp only [execOp,hop,Instr.buildSlice,Sem.run_bind,run_underlying g1,Result.andThen_ok,run_sizeOf hT2,hnl,if_false,if_pos h0,Sem.run_pure];rw [hcs,f1];simp [newRow]
      ·have hcs:(Array.map (fun x=>zv.cells[x % zv.cells.size]!) (Array.range (len*ti.sz)))=cs0:=by simp only [cs0,if_neg h0]
       simp only [execOp,hop,Instr.buildSlice,Sem.run_bind,run_underlying g1,Result.andThen_ok,run_sizeOf hT2,hnl,if_false,if_neg h0,Sem.run_pure,zeroValue,typeInfo,run_program,z1,z2];rw [hcs,f1];simp [newRow]
     have hcs':cs'.size=len*ti.sz:=by rw [←f2.len,hlen']
     refine ⟨_,_,_,_,hrun,.inl rfl,fresh_rows hr (alloc_same w) d hd cs' e ti.sz (chunks ti.sz len flat) none (fun i r hi=>?_) (by rw [chunks_length,hcs'];exact Nat.le_refl _) (fun c hc=>f2.one c (by simpa using hc)) (fun i r j u hi hj k hk=>?_) (fun i r j u hi hj=>?_),?_,fun k hk=>?_⟩
     ·obtain ⟨h1,h2⟩:=chunks_get _ _ _ _ hi;subst h2;rw [List.length_take,List.length_drop,hlen'];have:(i+1)*ti.sz≤len*ti.sz:=Nat.mul_le_mul_right _ h1;rw [Nat.add_mul] at this;omega
     ·obtain ⟨h1,h2⟩:=chunks_get _ _ _ _ hi;subst h2;have hu:u∈flat:=List.mem_of_mem_drop (List.mem_of_mem_take (List.mem_of_getElem? hj));rcases fillV_sites _ _ _ hf u hu k hk with ⟨u',hu',hk'⟩ | ⟨p,hp,hk'⟩
      ·obtain ⟨l,hl,hul⟩:=List.mem_flatten.1 hu';rw [(List.eq_of_mem_replicate hl)] at hul;rw [zero_sites hT2 u' hul] at hk';cases hk'
      ·obtain ⟨q,hq,rfl⟩:=List.mem_map.1 hp;have:=hr.sitesO q.2;rw [ho _ (hmem q hq)] at this;exact this k hk'
     ·obtain ⟨h1,h2⟩:=chunks_get _ _ _ _ hi;subst h2;rw [List.getElem?_take] at hj;split at hj
      ·rename_i hjs;rw [List.getElem?_drop] at hj;have hlt:i*ti.sz+j<cs'.size:=by
        have:=(List.getElem?_eq_some_iff.1 hj).1;rw [f2.len] at this;exact this
       have hc:=Array.getElem?_eq_getElem hlt;exact ⟨f2.vone _ _ hj,(fun l hl=>by cases hl),cs'[i*ti.sz+j],hc,f2.one _ (by simp),f2.rel _ _ _ hj hc⟩
      ·cases hj
     ·have hfo:=fresh_osl (Γ:=Γ) (m:=m) (w':=w.alloc (.cells cs' e)) (d:=d) (b:=w.heap.size) (sz:=ti.sz) (n:=len) (cap:=len) (k:=cs'.size) (e:=e) (Nat.le_refl _) (by unfold maxLen;omega) (shape_alloc_new w cs' e) (by rw [hcs'];exact Nat.le_refl _);rw [chunks_length];exact hfo
     ·simp [V.sites] at hk;subst hk;simp [ASt.ups,ASt.up,ASt.fresh]
    ·exact hk.elim
 ·exact hk.elim
end
end Go.Sx
namespace Go.Sx
open Go
section
variable {P:Program}{N:NB}{T:List (Nat×TI)}{o:Oper}{h:Nat→List Blk}{K:Kont}{ρ:Operand→V}
def runMakeSlice (T:List (Nat×TI)) (dst:Option Nat) (t:Nat) (l c:V) (K:Kont):Prop:=
 match look T t,dst,l,c with
 | some ⟨.sl e,_,_,_⟩,some d,.int _ l,.int _ c =>
  (match look T e with
  | none=>False
  | some ti=>(0≤l∧l≤c∧c*ti.bytes≤140737488355328∧c≤9223372036854775807)∧K (.osl d 0 0 l.toNat l.toNat) [.fresh d (.rows ti.sz (List.replicate l.toNat ti.zero) (some []))] [])
 | _,_,_,_=>False
theorem runMakeSlice_ok [Glob] (hT:TableOK P T) {t:Nat}{x y:Operand}(hop:o.op=.makeSlice t x y) (hk:runMakeSlice T o.dst t (ρ x) (ρ y) K):∃ v us rd,GoodV P N o ρ h v us rd∧K v us rd:=by
 unfold runMakeSlice at hk;split at hk
 ·rename_i e sz bytes z d k1 l k2 c hti hdst hx hy;split at hk
  ·exact hk.elim
  ·rename_i ti he;obtain ⟨⟨h0,h1,h2,h3⟩,hk⟩:=hk;have hT1:=hT _ _ hti;have hT2:=hT _ _ he;refine ⟨_,_,_,fun Γ m s a w hN hr ho _ hmade=>?_,hk⟩;have hd:s.used d=false:=hmade d (by simp [Up.made]);have hvx:=hr.evalO x;have hvy:=hr.evalO y;rw [ho x (by simp [hop,Op.operands]),hx] at hvx;rw [ho y (by simp [hop,Op.operands]),hy] at hvy;have hvx:=hvx.int_inv;have hvy:=hvy.int_inv;obtain ⟨d0,i',z',g1,g2,g3,_⟩:=hT1;have:=tkOf_sl g3;subst this;obtain ⟨i,zv,z1,z2,z3,z4,z5,z6,z7⟩:=zero_rel hT2;obtain ⟨d2,i2,z2',_,q2,_,q4,q5,_⟩:=hT2;rw [z1] at q2;cases q2
   let cs0:Array Value:=(Array.range (c.toNat*ti.sz)).map fun p=>(if c.toNat*ti.sz=0 then #[] else zv.cells)[p % (if c.toNat*ti.sz=0 then #[] else zv.cells).size]!
   have hcs0:∀ p,p<c.toNat*ti.sz→cs0[p]?=zv.cells[p % ti.sz]?∧p % ti.sz<zv.cells.size:=by
    intro p hp;have hne:c.toNat*ti.sz≠0:=by omega
    have hpos:0<ti.sz:=Nat.pos_of_ne_zero fun e=>hne (by rw [e];simp);have hlt:p % ti.sz<zv.cells.size:=by rw [z4];exact Nat.mod_lt _ hpos
    refine ⟨?_,hlt⟩;simp only [cs0,hne,if_false,z4];rw [Array.getElem?_map];simp [hp,hlt]
   have hsz0:cs0.size=c.toNat*ti.sz:=by simp [cs0]
   have hwl:=wrap_i64 (n:=l) ⟨by omega,by omega⟩;have hwc:=wrap_i64 (n:=c) ⟨by omega,by omega⟩;have hrun:(execOp a.eval o).run P w=.ok (.value (.slice (some ⟨w.heap.size,0,none⟩) l.toNat c.toNat)) (w.alloc (.cells cs0 e)):=by
    have htl:(decide (c<0)||decide ((ti.bytes:Int)*c > 2 ^ 48))=false:=by
     have e48:(2:Int) ^ 48=281474976710656:=by decide
     rw [e48];simp only [Bool.or_eq_false_iff,decide_eq_false_iff_not];refine ⟨by omega,?_⟩;rw [Int.mul_comm];omega
    have hcond:((decide (c<0)||decide ((ti.bytes:Int)*c > 2 ^ 48))||decide (l<0)||decide (l > c))=false:=by
     rw [htl];simp;omega
    simp only [execOp,hop,Instr.makeSlice,Sem.run_bind,run_underlying g1,Result.andThen_ok,hvx,hvy,asInt,asIntOf,Sem.run_pure,typeInfo,run_program,z1,hwl,hwc,q5,hcond,Bool.false_eq_true,if_false,run_askRoom,run_sizeOf (hT _ _ he),newRow];by_cases hz:c.toNat*ti.sz=0
    ·have hcs:(Array.map (fun x=>(#[]:Array Value)[x % (#[]:Array Value).size]!) (Array.range (c.toNat*ti.sz)))=cs0:=by simp only [cs0,hz,if_true]
     simp only [if_pos hz,Sem.run_pure,Sem.run_bind,Result.andThen_ok];rw [hcs];simp
    ·have hcs:(Array.map (fun x=>zv.cells[x % zv.cells.size]!) (Array.range (c.toNat*ti.sz)))=cs0:=by simp only [cs0,if_neg hz]
     simp only [if_neg hz,Sem.run_pure,Sem.run_bind,Result.andThen_ok,zeroValue,typeInfo,run_program,z1,z2];rw [hcs];simp
   have hlen:l.toNat≤c.toNat:=by omega
   refine ⟨_,_,_,_,hrun,.inl rfl,fresh_rows hr (alloc_same w) d hd cs0 e ti.sz (List.replicate l.toNat ti.zero) (some []) (fun i r hi=>?_) ?_ (fun y hy=>?_) (fun k hk=>by cases hk) (fun i r j u hi hj=>?_),?_,fun k hk=>?_⟩
   ·have:=List.eq_of_mem_replicate (List.mem_of_getElem? hi);rw [this,z3]
   ·rw [List.length_replicate,hsz0];exact Nat.mul_le_mul_right _ hlen
   ·obtain ⟨p,hp,rfl⟩:=Array.mem_iff_getElem.1 hy;obtain ⟨c1,c2⟩:=hcs0 p (by rw [hsz0] at hp;exact hp);rw [Array.getElem?_eq_getElem hp,Array.getElem?_eq_getElem c2] at c1;simp only [Option.some.injEq] at c1;rw [c1];exact z5 _ (by simp)
   ·have hre:=List.eq_of_mem_replicate (List.mem_of_getElem? hi);have hil:i<l.toNat:=by have:=(List.getElem?_eq_some_iff.1 hi).1;simpa using this
    subst hre;have hjs:j<ti.sz:=by have:=(List.getElem?_eq_some_iff.1 hj).1;rw [z3] at this;exact this
    have hlt:i*ti.sz+j<c.toNat*ti.sz:=by
     calc i*ti.sz+j<i*ti.sz+ti.sz:=by omega
      _=(i+1)*ti.sz:=by rw [Nat.add_mul,Nat.one_mul]
      _≤c.toNat*ti.sz:=Nat.mul_le_mul_right _ (by omega)
    obtain ⟨c1,c2⟩:=hcs0 _ hlt;have hmod:(i*ti.sz+j) % ti.sz=j:=by
     rw [Nat.mul_comm,Nat.mul_add_mod,Nat.mod_eq_of_lt hjs]
    rw [hmod] at c1 c2;have hzs:=zero_sites (hT _ _ he) u (List.mem_of_getElem? hj);refine ⟨z6 _ _ hj,fun l' hl k hk=>(by rw [hzs] at hk;cases hk),zv.cells[j],?_,z5 _ (by simp),z7 _ _ _ _ _ _ hj (by simp [c2])⟩;rw [c1];simp [c2]
   ·have hfo:=fresh_osl (Γ:=Γ) (m:=m) (w':=w.alloc (.cells cs0 e)) (d:=d) (b:=w.heap.size) (sz:=ti.sz) (n:=l.toNat) (cap:=c.toNat) (k:=cs0.size) (e:=e) hlen (by unfold maxLen;omega) (shape_alloc_new w cs0 e) (by rw [hsz0];exact Nat.le_refl _);rw [List.length_replicate];exact hfo
   ·simp [V.sites] at hk;subst hk;simp [ASt.ups,ASt.up,ASt.fresh]
 ·exact hk.elim
def rowsSz (rows:List (List V)) (sz:Nat):Prop:=∀ r∈rows,r.length=sz
theorem rowsSz_elim {rows:List (List V)}{sz:Nat}(h:rowsSz rows sz):∀ r∈rows,r.length=sz:=h
theorem rowsSz_nil {sz:Nat}:rowsSz [] sz:=fun r hr=>by cases hr
theorem rowsSz_cons {r:List V}{rows:List (List V)}{sz:Nat}(h:r.length=sz) (hr:rowsSz rows sz):rowsSz (r::rows) sz:=fun q hq=>by
 rcases List.mem_cons.1 hq with e | e
 ·subst e;exact h
 ·exact hr q e
attribute [irreducible] rowsSz
def bnd (x:Option V) (d:Int):Option Int:=
 match x with
 | none=>some d
 | some (.int _ n)=>some n
 | some _=>none
def runSlice (T:List (Nat×TI)) (t:Nat) (h:Nat→List Blk) (x:V) (lo hi mx:Option V) (K:Kont):Prop:=
 match look T t with
 | some ⟨.sl e,_,_,_⟩ =>
  (match look T e with
  | none=>False
  | some ti =>
   match x with
   | .sl rows full=>(match bnd lo 0,bnd hi rows.length with
    | some l,some u=>(0≤l∧l≤u∧u≤rows.length)∧rowsSz rows ti.sz ∧
     (match mx with
     | none=>K (.sl ((rows.take u.toNat).drop l.toNat) (match hi with | none=>full | some _=>false)) [] []
     | some (.int _ q)=>q=u∧K (.sl ((rows.take u.toNat).drop l.toNat) true) [] []
     | _=>False)
    | _,_=>False)
   | .osl s i o n g=>(match oslRows h s i,mx with
    | some (sz,rows,_),none=>(match Nat.beq sz ti.sz with
     | false=>False
     | true=>match bnd lo 0,bnd hi n with
      | some l,some u=>g=rows.length∧(0≤l∧l≤u∧u≤n)∧K (.osl s i (o+l.toNat) (u.toNat-l.toNat) g) [] [s]
      | _,_=>False)
    | _,_=>False)
   | _=>False)
 | some ⟨.str,_,_,_⟩ =>
  (match x,mx with
  | .str s,none=>(match bnd lo 0,bnd hi s.length with
   | some l,some u=>(0≤l∧l≤u∧u≤s.length)∧K (.str ((s.take u.toNat).drop l.toNat)) [] []
   | _,_=>False)
  | _,_=>False)
 | _=>False
theorem bnd_ok {w:World}{F:Nat→Prop}{m:MM}{x:Option Operand}{ρ:Operand→V}{a:Act}{d n:Int}(hb:bnd (x.map ρ) d=some n) (hx:∀ y,x=some y→VRel w F m (ρ y) (a.eval y)) :
  (x.map a.eval=none∧x=none∧n=d)∨∃ k,x.map a.eval=some (.int k n):=by
 cases x with
 | none=>simp [bnd] at hb;exact .inl ⟨rfl,rfl,hb.symm⟩
 | some y =>
  have hy:=hx y rfl;simp only [Option.map_some] at hb;generalize ρ y=v at hb hy;cases v<;>simp only [bnd] at hb<;>first | (cases hb;done) | skip
  cases hb;exact .inr ⟨_,by rw [Option.map_some,hy.int_inv]⟩
theorem run_bound {x:Value}{k:IntKind}{n:Int}{y:Nat}{cd:BoundsCode}(hx:x=.int k n) (h0:0≤n) (h1:n≤y) (w:World):(Instr.sliceBound x y cd).run P w=.ok n.toNat w:=by
 subst hx;simp [Instr.sliceBound,asIntOf,h0,h1]
theorem run_bounds {b:Bool}{len cap:Nat}{low high:Option Value}{l u:Int}(hl:(low=none∧l=0)∨∃ k,low=some (.int k l)) (hh:(high=none∧u=len)∨∃ k,high=some (.int k u)) (h0:0≤l) (h1:l≤u) (h2:u≤len) (h3:len≤cap) (w:World) :
  (Instr.sliceBounds b len cap low high none).run P w=.ok (l.toNat,u.toNat,cap) w:=by
 have hu:(u:Int)≤(cap:Int):=by omega
 rcases hl with ⟨rfl,rfl⟩ | ⟨k,rfl⟩<;>rcases hh with ⟨rfl,rfl⟩ | ⟨k',rfl⟩
 ·simp [Instr.sliceBounds]
 ·simp [Instr.sliceBounds,run_bound (rfl:Value.int k' u=.int k' u) (by omega) hu]
 ·have:=run_bound (P:=P) (cd:=.sliceB) (rfl:Value.int k l=.int k l) h0 (show l≤(len:Nat) by omega) w;simp [Instr.sliceBounds,this]
 ·have:=run_bound (P:=P) (cd:=.sliceB) (rfl:Value.int k l=.int k l) h0 (show l≤(u.toNat:Nat) by omega) w;simp [Instr.sliceBounds,run_bound (rfl:Value.int k' u=.int k' u) (by omega) hu,this]
theorem run_bounds3 {b:Bool}{len cap:Nat}{low high:Option Value}{l u:Int}{k2:IntKind}(hl:(low=none∧l=0)∨∃ k,low=some (.int k l)) (hh:∃ k,high=some (.int k u)) (h0:0≤l) (h1:l≤u) (h2:u≤len) (h3:len≤cap) (w:World) :
  (Instr.sliceBounds b len cap low high (some (.int k2 u))).run P w=.ok (l.toNat,u.toNat,u.toNat) w:=by
 have hu:(u:Int)≤(cap:Int):=by omega
 have hu2:(u:Int)≤(u.toNat:Nat):=by omega
 obtain ⟨k',rfl⟩:=hh;rcases hl with ⟨rfl,rfl⟩ | ⟨k,rfl⟩
 ·simp [Instr.sliceBounds,run_bound (rfl:Value.int k2 u=.int k2 u) (by omega) hu,run_bound (rfl:Value.int k' u=.int k' u) (by omega) hu2]
 ·have h4:l≤(u.toNat:Nat):=by omega
  simp [Instr.sliceBounds,run_bound (rfl:Value.int k2 u=.int k2 u) (by omega) hu,run_bound (rfl:Value.int k' u=.int k' u) (by omega) hu2,run_bound (rfl:Value.int k l=.int k l) h0 h4]
theorem runSlice_ok [Glob] (hT:TableOK P T) {t:Nat}{x:Operand}{lo hi mx:Option Operand}(hop:o.op=.slice t x lo hi mx) (hmx:mx.isSome=true→hi.isSome=true) (hk:runSlice T t h (ρ x) (lo.map ρ) (hi.map ρ) (mx.map ρ) K):∃ v us rd,GoodV P N o ρ h v us rd∧K v us rd:=by
 have mx0:x∈o.op.operands:=by simp [hop,Op.operands]
 have mlo:∀ y,lo=some y→y∈o.op.operands:=fun y hy=>by simp [hop,Op.operands,hy]
 have mhi:∀ y,hi=some y→y∈o.op.operands:=fun y hy=>by simp [hop,Op.operands,hy]
 have mmx:∀ y,mx=some y→y∈o.op.operands:=fun y hy=>by simp [hop,Op.operands,hy]
 have fix:∀ {z:Option Operand}{a:Act}{n d:Int},((z.map a.eval=none∧z=none∧n=d)∨∃ k,z.map a.eval=some (.int k n))→(z.map a.eval=none∧n=d)∨∃ k,z.map a.eval=some (.int k n):=fun h=>h.imp (fun h=>⟨h.1,h.2.2⟩) id;unfold runSlice at hk;split at hk
 ·rename_i e sz bytes z hti;split at hk
  ·exact hk.elim
  ·rename_i ti he;have hT1:=hT _ _ hti;have hT2:=hT _ _ he;obtain ⟨d0,i',z',g1,g2,g3,_⟩:=hT1;have:=tkOf_sl g3;subst this;have hrunS:∀ (w:World) (a:Option Addr) (len cap l u m:Nat) (lv hv mv:Option Value),(Instr.sliceBounds true len cap lv hv mv).run P w=.ok (l,u,m) w →
     (Instr.slice t (.slice a len cap) lv hv mv).run P w=.ok (.slice (if m=l then a else a.map (·.add (l*ti.sz))) (u-l) (m-l)) w:=by
    intro w a len cap l u m lv hv mv hb;simp only [Instr.slice,Sem.run_bind,run_underlying g1,Result.andThen_ok,hb,run_sizeOf hT2,Sem.run_pure]
   have hsl:∀ (w:World) (x:Value) (lv hv mv:Option Value),Instr.sliceAt t x lv hv mv=(do match ← underlying t with | .array n elem=>(do let a ← Instr.sureAddr x;let (l,h,m) ← Instr.sliceBounds false n n lv hv mv;let size ← sizeOf elem;pure (.slice (some (if m=l then a else a.add (l*size))) (h-l) (m-l))) | _=>Instr.slice t x lv hv mv):=fun w x lv hv mv=>rfl;have hex:∀ (a:Act) (w:World) (c:Value),(Instr.slice t (a.eval x) (lo.map a.eval) (hi.map a.eval) (mx.map a.eval)).run P w=.ok c w→(execOp a.eval o).run P w=.ok (.value c) w:=by
    intro a w c hc;simp only [execOp,hop,hsl w,Sem.run_bind,run_underlying g1,Result.andThen_ok,hc];rfl
   split at hk
   ·rename_i rows full hx;split at hk
    ·rename_i l u hl hu;obtain ⟨⟨h0,h1,h2⟩,hrs,hk⟩:=hk;have hrs:=rowsSz_elim hrs;have main:∀ (v:V) (full':Bool) (mq:∀ (a:Act) (cap:Nat) (w:World),rows.length≤cap→(full=true→cap=rows.length)→(∀ x∈o.op.operands,VRel w (fun _=>False) (fun _ _=>none) .dead (a.eval x))→True),v=.sl ((rows.take u.toNat).drop l.toNat) full' →
       (∀ (Γ:Ctx) (m:MM) (a:Act) (w:World) (cap:Nat),(∀ x∈o.op.operands,VRel w (Forb Γ m) m (ρ x) (a.eval x))→rows.length≤cap→(full=true→cap=rows.length)→∃ q:Nat,u.toNat≤q∧q≤cap∧(full'=true→q=u.toNat)∧(Instr.sliceBounds true rows.length cap (lo.map a.eval) (hi.map a.eval) (mx.map a.eval)).run P w=.ok (l.toNat,u.toNat,q) w)→GoodV P N o ρ h v [] []:=by
      intro v full' _ hv hq;subst hv;refine good_pure (fun Γ m s a w hr ho=>?_) (by simp [V.sites]);have hvx:=ho x mx0;rw [hx] at hvx;generalize hc:a.eval x=c at hvx;have hres:((rows.take u.toNat).drop l.toNat).length=u.toNat-l.toNat:=by simp;omega
      cases hvx with
      | nilsl =>
       obtain ⟨q,q1,q2,q3,q4⟩:=hq Γ m a w 0 ho (by simp) (by simp);simp only [List.length_nil] at h2 q4;have hu0:u.toNat=0:=by omega
       have hl0:l.toNat=0:=by omega
       have hq0:q=0:=by omega
       refine ⟨_,hex _ _ _ (by rw [hc];exact hrunS w _ 0 0 _ _ _ _ _ _ q4),?_⟩;subst hq0;simp only [hu0,hl0,if_true,Nat.sub_zero,List.take_nil,List.drop_nil];exact .nilsl _ _
      | sl rows full sz b base cap c hF hlc hm hf hz hd h11 ho1 hc' hv =>
       obtain ⟨q,q1,q2,q3,q4⟩:=hq Γ m a w cap ho hlc hf;refine ⟨_,hex _ _ _ (by rw [hc];exact hrunS w _ _ _ _ _ _ _ _ _ q4),?_⟩;have hget:∀ (i:Nat) (r:List V),((rows.take u.toNat).drop l.toNat)[i]?=some r→rows[l.toNat+i]?=some r:=by
        intro i r hi;rw [List.getElem?_drop,List.getElem?_take] at hi;split at hi
        ·exact hi
        ·cases hi
       have haddr:(if q=l.toNat then some (⟨b,base,none⟩:Addr) else (some (⟨b,base,none⟩:Addr)).map (·.add (l.toNat*ti.sz)))=some ⟨b,if q=l.toNat then base else base+l.toNat*ti.sz,none⟩:=by
        split
        ·rfl
        ·simp [add_lit]
       rw [haddr,←hres];refine .sl _ full' sz b _ (q-l.toNat) (fun i j=>c (l.toNat+i) j) (fun hne=>hF fun e=>hne (by rw [e];simp)) (by omega) (by omega) (fun hf'=>by have:=q3 hf';omega) (fun i r hi=>hz _ r (hget i r hi)) (fun i r j v hi hj=>hd _ r j v (hget i r hi) hj) (fun i r j v hi hj=>h11 _ r j v (hget i r hi) hj) (fun i r j v hi hj=>ho1 _ r j v (hget i r hi) hj) (fun i r j v hi hj=>?_) (fun i r j v hi hj=>hv _ r j v (hget i r hi) hj);have hg:=hget i r hi;have h3:=hc' _ r j v hg hj;have hszz:sz=ti.sz:=by rw [←hz _ r hg];exact hrs r (List.mem_of_getElem? hg)
       have hlt:i<((rows.take u.toNat).drop l.toNat).length:=(List.getElem?_eq_some_iff.1 hi).1;rw [if_neg (by omega)];rw [Nat.add_mul,hszz] at h3;rw [hszz];rw [show base+l.toNat*ti.sz+i*ti.sz+j=base+(l.toNat*ti.sz+i*ti.sz)+j by omega];exact h3
     split at hk
     ·rename_i hmx0;have hmxn:mx=none:=by cases mx<;>simp at hmx0 ⊢
      refine ⟨_,[],[],main _ _ (fun _ _ _ _ _ _=>trivial) rfl fun Γ m a w cap ho hlc hf=>?_,hk⟩;have b1:=bnd_ok (w:=w) (F:=Forb Γ m) (m:=m) (a:=a) hl fun y hy=>ho y (mlo y hy);have b2:=bnd_ok (w:=w) (F:=Forb Γ m) (m:=m) (a:=a) hu fun y hy=>ho y (mhi y hy);refine ⟨cap,by omega,Nat.le_refl _,fun hf'=>?_,by rw [hmxn];exact run_bounds (fix b1) (fix b2) h0 h1 h2 hlc w⟩;rcases b2 with ⟨_,hn,hd⟩ | ⟨k,hs⟩
      ·rw [hn] at hf';simp at hf';have:=hf hf';omega
      ·cases hi with
       | none=>simp at hs
       | some y=>simp at hf'
     ·rename_i kq q hmx0;obtain ⟨rfl,hk⟩:=hk;refine ⟨_,[],[],main _ true (fun _ _ _ _ _ _=>trivial) rfl fun Γ m a w cap ho hlc hf=>?_,hk⟩;have b1:=bnd_ok (w:=w) (F:=Forb Γ m) (m:=m) (a:=a) hl fun y hy=>ho y (mlo y hy);have b2:=bnd_ok (w:=w) (F:=Forb Γ m) (m:=m) (a:=a) hu fun y hy=>ho y (mhi y hy);cases mx with
      | none=>simp at hmx0
      | some y =>
       have hy:=ho y (mmx y rfl);simp only [Option.map_some,Option.some.injEq] at hmx0;rw [hmx0] at hy;have hhi:=hmx rfl;refine ⟨q.toNat,Nat.le_refl _,by omega,fun _=>rfl,?_⟩;simp only [Option.map_some,hy.int_inv];refine run_bounds3 (fix b1) ?_ h0 h1 h2 hlc w;rcases b2 with ⟨_,hn,_⟩ | hs
       ·rw [hn] at hhi;cases hhi
       ·exact hs
     ·exact hk.elim
    ·exact hk.elim
   ·rename_i s i o0 n g hx;split at hk
    ·rename_i sz' rows ks hh hmx0;have hmxn:mx=none:=by cases mx<;>simp at hmx0 ⊢
     split at hk
     ·exact hk.elim
     ·rename_i hsz;have hsz:=Nat.eq_of_beq_eq_true hsz;split at hk
      ·rename_i l u hl hu;obtain ⟨hg,⟨h0,h1,h2⟩,hk⟩:=hk;refine ⟨_,_,_,GoodV.still fun Γ m s' a w hr ho hgd=>?_,hk⟩;have ho':∀ x∈o.op.operands,VRel w (Forb Γ m) m (ρ x) (a.eval x):=fun x hx=>by rw [←ho x hx];exact hr.evalO x
       have hvx:=ho' x mx0;rw [hx] at hvx;have hh':(s'.heap s)[i]?=some (.rows sz' rows ks):=by rw [hgd s (by simp)];exact oslRows_some hh
       obtain ⟨y,hy,hB,hle,hos⟩:=hr.osl_inv hvx hh' hg;have b1:=bnd_ok (w:=w) (F:=Forb Γ m) (m:=m) (a:=a) hl fun y hy=>ho' y (mlo y hy);have b2:=bnd_ok (w:=w) (F:=Forb Γ m) (m:=m) (a:=a) hu fun y hy=>ho' y (mhi y hy);have hus:∀ k∈(V.osl s i (o0+l.toNat) (u.toNat-l.toNat) g).sites,s'.used k=true:=fun k hk=>by
        simp [V.sites] at hk;subst hk;exact hr.useH _ (by intro e0;rw [e0] at hh';simp at hh')
       rcases hos with ⟨rfl,ad,hc⟩ | ⟨hnil,cap,e1,n1,hc,h6,h7,h8,h9⟩
       ·have hu0:u.toNat=0:=by omega
        have hl0:l.toNat=0:=by omega
        have hrb:=run_bounds (P:=P) (b:=true) (cap:=0) (fix b1) (fix b2) h0 h1 (by simpa using h2) (Nat.le_refl _) w;refine ⟨_,hex _ _ _ (by rw [hc,hmxn];exact hrunS w ad 0 0 _ _ _ _ _ _ hrb),?_,hus⟩;simp only [hu0,hl0,if_true,Nat.sub_zero,Nat.add_zero];refine .osl _ _ _ _ _ _ ⟨_,_,_,rfl⟩ fun q hq=>?_;rw [hy] at hq;cases hq;exact ⟨by rw [hB.hn];omega,fun _=>⟨by omega,.inl ⟨rfl,ad,rfl⟩⟩⟩
       ·have hrb:=run_bounds (P:=P) (b:=true) (fix b1) (fix b2) h0 h1 h2 h6 w;refine ⟨_,hex _ _ _ (by rw [hc,hmxn];exact hrunS w _ _ _ _ _ _ _ _ _ hrb),?_,hus⟩;by_cases hcl:cap=l.toNat
        ·
         have hul:u.toNat=l.toNat:=by omega
         simp only [hcl,if_true,hul,Nat.sub_self];refine .osl _ _ _ _ _ _ ⟨_,_,_,rfl⟩ fun q hq=>?_;rw [hy] at hq;cases hq;exact ⟨by rw [hB.hn];omega,fun _=>⟨by omega,.inl ⟨rfl,_,rfl⟩⟩⟩
        ·rw [if_neg hcl];simp only [Option.map_some,add_lit];refine .osl _ _ _ _ _ _ ⟨_,_,_,rfl⟩ fun q hq=>?_;rw [hy] at hq;cases hq;refine ⟨by rw [hB.hn];omega,fun _=>⟨by omega,.inr ⟨hnil,cap-l.toNat,e1,n1,?_,by omega,by omega,h8,?_⟩⟩⟩
         ·rw [hB.hsz,hsz,Nat.add_mul,Nat.add_assoc]
         ·rw [show o0+l.toNat+(cap-l.toNat)=o0+cap by omega];exact h9
      ·exact hk.elim
    ·exact hk.elim
   ·exact hk.elim
 ·rename_i sz bytes z hti;have hT1:=hT _ _ hti;obtain ⟨d0,i',z',g1,g2,g3,_⟩:=hT1;have:=tkOf_str g3;subst this;split at hk
  ·rename_i s hx hmx0;have hmxn:mx=none:=by cases mx<;>simp at hmx0 ⊢
   split at hk
   ·rename_i l u hl hu;obtain ⟨⟨h0,h1,h2⟩,hk⟩:=hk;refine ⟨_,[],[],good_pure (fun Γ m st a w hr ho=>?_) (by simp [V.sites]),hk⟩;have hvx:=ho x mx0;rw [hx] at hvx;obtain ⟨hc,hm⟩:=hvx.str_inv;have b1:=bnd_ok (w:=w) (F:=Forb Γ m) (m:=m) (a:=a) hl fun y hy=>ho y (mlo y hy);have b2:=bnd_ok (w:=w) (F:=Forb Γ m) (m:=m) (a:=a) hu fun y hy=>ho y (mhi y hy);have esz:(⟨s.toArray⟩:ByteArray).size=s.length:=by simp [ByteArray.size]
    have hrb:=run_bounds (P:=P) (b:=false) (cap:=s.length) (fix b1) (fix b2) h0 h1 h2 (Nat.le_refl _) w;refine ⟨.string ((⟨s.toArray⟩:ByteArray).extract l.toNat u.toNat),?_,?_⟩
    ·simp only [execOp,hop,Instr.sliceAt,Sem.run_bind,run_underlying g1,Result.andThen_ok,hc,hmxn,Option.map_none,Instr.slice,esz];simp [hrb,run_underlying g1]
    ·have:(⟨s.toArray⟩:ByteArray).extract l.toNat u.toNat=⟨((s.take u.toNat).drop l.toNat).toArray⟩:=by
      rw [ByteArray.ext_iff];simp [ByteArray.data_extract,List.drop_take]
     rw [this];exact .str _ (by simp;omega)
   ·exact hk.elim
  ·exact hk.elim
 ·exact hk.elim
end
end Go.Sx
namespace Go.Sx
open Go
def pureB (rows:List (List V)):Bool:=rows.all fun r=>r.all fun v=>v.sites.isEmpty
theorem pureB_at {rows:List (List V)}(h:pureB rows=true) {i:Nat}{r:List V}{j:Nat}{v:V}(hi:rows[i]?=some r) (hj:r[j]?=some v):v.sites=[]:=by
 have h1:=List.all_eq_true.1 h r (List.mem_of_getElem? hi);have h2:=List.all_eq_true.1 h1 v (List.mem_of_getElem? hj);simpa using h2
theorem freeze_rel [Glob] {Γ:Ctx}{m:MM}{s:ASt}{a:Act}{w:World}(hr:Rel Γ m s a w) {k n sz:Nat}{rows:List (List V)}{ks:Option (List Nat)}{c:Value}(hh:s.heap k=[.rows sz rows ks])
  (hv:VRel w (Forb Γ m) m (.osl k 0 0 n n) c) (hn:n=rows.length) (hp:pureB rows=true):∃ m2,Rel Γ m2 (s.at k 0 .gone) a w∧VRel w (Forb Γ m2) m2 (.sl rows false) c:=by
 have hh0:(s.heap k)[0]?=some (.rows sz rows ks):=by rw [hh];rfl
 obtain ⟨x,hx,hB,hle,hos⟩:=hr.osl_inv hv hh0 hn;have h2:=hr.at k 0 hh0 hx ⟨x.b,x.base,x.sz,x.n+1,true⟩ .gone (.inr (Nat.lt_succ_self _)) (w':=w) (fun _ _ _=>rfl) (Nat.le_refl _) (fun _ _ _ h=>h) rfl ⟨rfl,fun _=>Nat.le_refl _⟩ rfl (fun h=>by cases h) trivial trivial;refine ⟨_,h2,?_⟩;have hFs:∀ b,Forb Γ (MM.at m k 0 ⟨x.b,x.base,x.sz,x.n+1,true⟩) b→Forb Γ m b:=fun b hb=>hb.imp id fun ⟨j,i,y,hy,hyn,hyb⟩=>by
  unfold MM.at at hy;split at hy
  ·cases hy;cases hyn
  ·exact ⟨j,i,y,hy,hyn,hyb⟩
 have go:∀ {v c},v.sites=[]→VRel w (Forb Γ m) m v c→VRel w (Forb Γ (MM.at m k 0 ⟨x.b,x.base,x.sz,x.n+1,true⟩)) (MM.at m k 0 ⟨x.b,x.base,x.sz,x.n+1,true⟩) v c:=fun h0 hv=>hv.pure (fun b _ hn=>⟨rfl,fun hf=>hn (hFs b hf)⟩) (Nat.le_refl _) (fun _ _ _ h=>h) h0;rcases hos with ⟨hl0,ad,rfl⟩ | ⟨hnil,cap,e1,n1,rfl,h6,h7,h8,h9⟩
 ·have:rows=[]:=List.length_eq_zero_iff.1 (by omega);rw [this];exact .nilsl false _
 ·have hno:¬ Forb Γ (MM.at m k 0 ⟨x.b,x.base,x.sz,x.n+1,true⟩) x.b:=fun hf=>by
   rcases hf with hf | ⟨j,i,y,hy,hyn,hyb⟩
   ·exact (hr.fr k 0 x hx hnil).1 hf
   ·unfold MM.at at hy;split at hy
    ·cases hy;cases hyn
    ·rename_i hne;exact hne (hr.inj j i y k 0 x hy hx hyn hnil hyb)
  have hcell:∀ (i:Nat) r (j:Nat) v,rows[i]?=some r→r[j]?=some v→∃ c,w.cell? ⟨x.b,x.base+i*sz+j,none⟩=some c∧c.oneCell'=true∧VRel w (Forb Γ m) m v c∧v.one=true∧v.sites=[]:=by
   intro i r j v hi hj;obtain ⟨g1,g2,c,g3,g4,g5⟩:=hB.cell _ r j v hi hj;exact ⟨c,g3,g4,g5,g1,pureB_at hp hi hj⟩
  have:=VRel.sl (w:=w) (F:=Forb Γ (MM.at m k 0 ⟨x.b,x.base,x.sz,x.n+1,true⟩)) (m:=MM.at m k 0 ⟨x.b,x.base,x.sz,x.n+1,true⟩) rows false sz x.b x.base cap (fun i j=>(w.cell? ⟨x.b,x.base+i*sz+j,none⟩).getD undef) (fun _=>⟨hno,(hr.fr k 0 x hx hnil).2.1⟩) (by rw [←hn];exact h6) h7 (fun h=>by cases h)
   (fun i r hi=>hB.len _ r hi) (fun i r j v hi hj=>(hcell i r j v hi hj).choose_spec.2.2.2.2) (fun i r j v hi hj=>(hcell i r j v hi hj).choose_spec.2.2.2.1)
   (fun i r j v hi hj=>by obtain ⟨c,g1,g2,g3,_⟩:=hcell i r j v hi hj;rw [g1];exact g2) (fun i r j v hi hj=>by obtain ⟨c,g1,g2,g3,_⟩:=hcell i r j v hi hj;rw [g1];rfl) (fun i r j v hi hj=>by obtain ⟨c,g1,g2,g3,_,g5⟩:=hcell i r j v hi hj;rw [g1];exact go g5 g3)
  simp only [Nat.zero_mul,Nat.add_zero];rw [←hn] at this;exact this
theorem GoodV.frozen [Glob] {P:Program}{N:NB}{o:Oper}{ρ:Operand→V}{h:Nat→List Blk}{d n sz:Nat}{rows:List (List V)}{ks:Option (List Nat)}{rd:List Nat}
  (g:GoodV P N o ρ h (.osl d 0 0 n n) [.fresh d (.rows sz rows ks)] rd) (hn:n=rows.length) (hp:pureB rows=true):GoodV P N o ρ h (.sl rows false) [.fresh d .gone] rd:=by
 intro Γ m s a w hN hr ho hrd hmade;obtain ⟨nx,c,w',m',h1,h2,h3,h4,_⟩:=g Γ m s a w hN hr ho hrd hmade;have hh:(s.ups [.fresh d (.rows sz rows ks)]).heap d=[.rows sz rows ks]:=by simp [ASt.ups,ASt.up,ASt.fresh]
 obtain ⟨m2,g1,g2⟩:=freeze_rel h3 hh h4 hn hp;refine ⟨nx,c,w',m2,h1,h2,?_,g2,by simp [V.sites]⟩;have e:(s.ups [.fresh d (.rows sz rows ks)]).at d 0 .gone=s.ups [.fresh d .gone]:=by
  simp only [ASt.ups,List.foldl,ASt.up,ASt.fresh,ASt.at];congr 1;funext j;by_cases hj:j=d<;>simp [hj]
 rw [←e];exact g1
def orData (K:Kont):Kont:=fun v us rd=>K v us rd∨(match v,us with
 | .osl d 0 0 n n',[.fresh d' (.rows _ rows _)]=>(match Nat.beq d d'&&(Nat.beq n rows.length&&(Nat.beq n' rows.length&&pureB rows)) with | true=>K (.sl rows false) [.fresh d .gone] rd | false=>False)
 | _,_=>False)
theorem orData_ok [Glob] {P:Program}{N:NB}{o:Oper}{ρ:Operand→V}{h:Nat→List Blk}{K:Kont}(g:∃ v us rd,GoodV P N o ρ h v us rd∧orData K v us rd):∃ v us rd,GoodV P N o ρ h v us rd∧K v us rd:=by
 obtain ⟨v,us,rd,g,hk | hk⟩:=g
 ·exact ⟨v,us,rd,g,hk⟩
 ·split at hk
  ·split at hk
   rotate_left
   ·exact hk.elim
   rename_i hb;simp only [Bool.and_eq_true] at hb;obtain ⟨h1,h2,h3,h4⟩:=hb;have h1:=Nat.eq_of_beq_eq_true h1;have h2:=Nat.eq_of_beq_eq_true h2;have h3:=Nat.eq_of_beq_eq_true h3;subst h1;rw [h3,←h2] at g;exact ⟨_,_,_,g.frozen h2 h4,hk⟩
  ·exact hk.elim
def orDataP (K:Kont):Kont:=fun v us rd=>K v us rd∨(match v,us with
 | .osl d 0 0 n n',[.fresh d' (.rows _ rows _)]=>(d=d'∧n=rows.length∧n'=rows.length∧pureB rows=true)∧K (.sl rows false) [.fresh d .gone] rd
 | _,_=>False)
theorem orDataP_ok [Glob] {P:Program}{N:NB}{o:Oper}{ρ:Operand→V}{h:Nat→List Blk}{K:Kont}(g:∃ v us rd,GoodV P N o ρ h v us rd∧orDataP K v us rd):∃ v us rd,GoodV P N o ρ h v us rd∧K v us rd:=by
 obtain ⟨v,us,rd,g,hk | hk⟩:=g
 ·exact ⟨v,us,rd,g,hk⟩
 ·split at hk
  ·obtain ⟨⟨h1,h2,h3,h4⟩,hk⟩:=hk;subst h1;rw [h3,←h2] at g;exact ⟨_,_,_,g.frozen h2 h4,hk⟩
  ·exact hk.elim
def kontA (x:V) (K:Kont):Kont:=match x with
 | .osl _ _ _ _ _=>K
 | .oslc _ _ _ _ _ _=>K
 | _=>orDataP K
theorem kontA_ok [Glob] {P:Program}{N:NB}{o:Oper}{ρ:Operand→V}{h:Nat→List Blk}{K:Kont}{x:V}(g:∃ v us rd,GoodV P N o ρ h v us rd∧kontA x K v us rd):∃ v us rd,GoodV P N o ρ h v us rd∧K v us rd:=by
 unfold kontA at g;split at g
 ·exact g
 ·exact g
 ·exact orDataP_ok g
def keyIs:TK→V→Bool
 | .str,.str _=>true
 | .int q,.int q' _=>decide (q=q')
 | .bool,.bool _=>true
 | _,_=>false
def eqKey:V→V→Option Bool
 | .str a,.str b=>some (decide (a=b))
 | .int k a,.int k' b=>(match decide (k=k') with | true=>some (decide (a=b)) | false=>none)
 | .bool a,.bool b=>some (a == b)
 | _,_=>none
theorem beqB (x y:ByteArray):(x == y)=decide (x=y):=by
 obtain ⟨x⟩:=x;obtain ⟨y⟩:=y;have h:((⟨x⟩:ByteArray) == ⟨y⟩)=(x == y):=rfl;rw [h];by_cases e:x=y
 ·subst e;simp
 ·have:¬ ((⟨x⟩:ByteArray)=⟨y⟩):=fun hh=>e (congrArg ByteArray.data hh);simp [e,this]
def mapAt (k:V):List (Nat×V×V)→Option (Option (Nat×Nat×V))
 | []=>some none
 | (b,k',v)::es =>
  match eqKey k k' with
  | some true=>some (some (0,b,v))
  | some false=>(match mapAt k es with
   | some (some (i,b',v'))=>some (some (i+1,b',v'))
   | some none=>some none
   | none=>none)
  | none=>none
def blkAt (l:List Blk) (i:Nat) (K:Blk→Prop):Prop:=
 match l,i with
 | [b],0=>K b
 | l,i=>∃ b,l[i]?=some b∧K b
theorem blkAt_get {l:List Blk}{i:Nat}{K:Blk→Prop}(h:blkAt l i K):∃ b,l[i]?=some b∧K b:=by
 unfold blkAt at h;split at h
 ·exact ⟨_,rfl,h⟩
 ·exact h
theorem mapAt_some {k:V}:∀ {es:List (Nat×V×V)}{i b:Nat}{v:V},mapAt k es=some (some (i,b,v))→∃ k',es[i]?=some (b,k',v)∧eqKey k k'=some true
 | [],i,b,v,h=>by cases h
 | (b0,k0,v0)::es,i,b,v,h=>by
  simp only [mapAt] at h;split at h
  ·rename_i he;cases h;exact ⟨k0,rfl,he⟩
  ·split at h
   ·rename_i hr;cases h;obtain ⟨k',h1,h2⟩:=mapAt_some hr;exact ⟨k',by simpa using h1,h2⟩
   ·cases h
   ·cases h
  ·cases h
theorem eqKey_rel {w:World}{F:Nat→Prop}{m:MM}{kd:TypeDesc}{k k':V}{c c':Value}{b:Bool}(hk:keyIs (tkOf kd) k=true) (h:eqKey k k'=some b) (h1:VRel w F m k c) (h2:VRel w F m k' c'):Instr.sameNow kd c c'=some b:=by
 cases k with
 | str a =>
  cases k' with
  | str a' =>
   cases kd<;>simp only [tkOf,keyIs] at hk<;>first | cases hk | skip
   cases h1 with
   | str a hl =>
    cases h2 with
    | str a' hl' =>
     simp only [eqKey,Option.some.injEq] at h;simp only [Instr.sameNow,Option.some.injEq,←h];by_cases e:a=a'
     ·subst e;rw [beqB];simp
     ·have:¬ ((⟨a.toArray⟩:ByteArray)=⟨a'.toArray⟩):=fun hh=>e (by
       have:=congrArg ByteArray.data hh
       simpa using congrArg Array.toList this)
      rw [beqB];simp [e,this]
  | _=>simp only [eqKey] at h;cases h
 | int q a =>
  cases k' with
  | int q' a' =>
   cases kd<;>simp only [tkOf,keyIs] at hk<;>first | cases hk | skip
   cases h1 with
   | int _ _ =>
    cases h2 with
    | int _ _ =>
     simp only [eqKey] at h;split at h
     ·rename_i e;have e:=of_decide_eq_true e;subst e;simp only [Option.some.injEq] at h;simp only [Instr.sameNow,←h];simp;by_cases e:a=a'<;>simp [e]
     ·cases h
  | _=>simp only [eqKey] at h;cases h
 | bool a =>
  cases k' with
  | bool a' =>
   cases kd<;>simp only [tkOf,keyIs] at hk<;>first | cases hk | skip
   cases h1 with
   | bool _ =>
    cases h2 with
    | bool _ =>
     simp only [eqKey,Option.some.injEq] at h;simp [Instr.sameNow,←h]
  | _=>simp only [eqKey] at h;cases h
 | _=>simp only [eqKey] at h;cases h
theorem findNow_rel {w:World}{F:Nat→Prop}{m:MM}{kd:TypeDesc}{k:V}{c:Value}(hk:keyIs (tkOf kd) k=true) (h1:VRel w F m k c):∀ {es:List (Nat×V×V)}{ents:List MapEntry}{r:Option (Nat×Nat×V)}(n:Nat),mapAt k es=some r→ents.length=es.length →
  (∀ (i:Nat) b k v,es[i]?=some (b,k,v)→∃ e,ents[i]?=some e∧VRel w F m k e.key) →
  (match r with
   | none=>Instr.findNow kd c ents n=some none
   | some (i,_,_)=>∃ e,ents[i]?=some e∧Instr.findNow kd c ents n=some (some (n+i,e.val))∧Instr.sameNow kd c e.key=some true)
 | [],[],r,n,h,hl,hE=>by cases h;rfl
 | [],_::_,r,n,h,hl,hE=>by simp at hl
 | _::_,[],r,n,h,hl,hE=>by simp at hl
 | (b0,k0,v0)::es,e0::ents,r,n,h,hl,hE=>by
  obtain ⟨e,he,hv⟩:=hE 0 b0 k0 v0 rfl;simp at he;subst he;simp only [mapAt] at h;have hrest:∀ (i:Nat) b k v,es[i]?=some (b,k,v)→∃ e,ents[i]?=some e∧VRel w F m k e.key:=fun i b k v hi=>by
   obtain ⟨e,h1,h2⟩:=hE (i+1) b k v (by simpa using hi);exact ⟨e,by simpa using h1,h2⟩
  split at h
  ·rename_i he;cases h;have:=eqKey_rel hk he h1 hv;exact ⟨e0,rfl,by simp [Instr.findNow,this],this⟩
  ·rename_i he;have hs:=eqKey_rel hk he h1 hv;split at h
   ·rename_i i b' v' hr;cases h;have:=findNow_rel hk h1 (n+1) hr (by simpa using hl) hrest;obtain ⟨e,g1,g2,g3⟩:=this;exact ⟨e,by simpa using g1,by simp only [Instr.findNow,hs];rw [g2,show n+1+i=n+(i+1) by omega],g3⟩
   ·rename_i hr;cases h;have:=findNow_rel hk h1 (n+1) hr (by simpa using hl) hrest;simp only [Instr.findNow,hs];exact this
   ·cases h
  ·cases h
theorem checkKey_none {P:Program}{kt:Nat}{kd:TypeDesc}(g:P.underlying kt=some kd) {w:World}{F:Nat→Prop}{m:MM}{k:V}{c:Value}(hk:keyIs (tkOf kd) k=true) (h:VRel w F m k c) (em:Bool) (w':World):(Instr.checkKey em 10000 kt c).run P w'=.ok () w':=by
 have run:∀ (d:Nat),(Instr.checkKey em (d+1) kt c).run P w'=.ok () w':=fun d=>by
  cases k with
  | str a=>cases h;cases kd<;>simp only [tkOf,keyIs] at hk<;>first | (cases hk;done) | simp [Instr.checkKey,run_underlying g]
  | int q a=>cases h;cases kd<;>simp only [tkOf,keyIs] at hk<;>first | (cases hk;done) | simp [Instr.checkKey,run_underlying g]
  | bool a=>cases h;cases kd<;>simp only [tkOf,keyIs] at hk<;>first | (cases hk;done) | simp [Instr.checkKey,run_underlying g]
  | _=>cases kd<;>simp only [tkOf,keyIs] at hk<;>cases hk
 exact run 9999
theorem stays {P:Program}{kd:TypeDesc}{c c':Value}(h:Instr.sameNow kd c c'=some true) (w:World):(Instr.keyThatStays c' c).run P w=.ok c w∧c'=c:=by
 have hb:Instr.sameBits 10000 c' c=true∧c'=c:=by
  unfold Instr.sameNow at h;split at h
  ·rename_i q k a k' b;split at h
   ·rename_i e;subst e;simp only [Option.some.injEq,beq_iff_eq] at h;subst h;simp [Instr.sameBits]
   ·cases h
  ·simp only [Option.some.injEq] at h;rw [beqB] at h;have h:=of_decide_eq_true h;subst h;simp [Instr.sameBits,beqB]
  ·simp only [Option.some.injEq,beq_iff_eq] at h;subst h;simp [Instr.sameBits]
  ·cases h
 refine ⟨?_,hb.2⟩;unfold Instr.keyThatStays;rw [hb.1];simp
theorem mapAt_vals {k:V}{es:List (Nat×V×V)}{i b:Nat}{v:V}(h:mapAt k es=some (some (i,b,v))):∃ k',es[i]?=some (b,k',v):=by
 obtain ⟨k',h1,_⟩:=mapAt_some h;exact ⟨k',h1⟩
section
variable {P:Program}{N:NB}{T:List (Nat×TI)}{o:Oper}{h:Nat→List Blk}{K:Kont}{ρ:Operand→V}
theorem Rel.omap_inv [Glob] {Γ:Ctx}{m:MM}{s:ASt}{a:Act}{w:World}(hr:Rel Γ m s a w) {k i:Nat}{es:List (Nat×V×V)}{clock:Nat}{ks:Option (List Nat)}{c:Value}
  (hv:VRel w (Forb Γ m) m (.omap k i) c) (hh:(s.heap k)[i]?=some (.map es clock ks)):∃ x,m k i=some x∧c=.map (some x.b)∧MapOK w (Forb Γ m) m x es clock ks:=by
 obtain ⟨x,hx,hB⟩:=hr.heap k i _ hh;cases hv with
 | omap _ _ c hc hv=>exact ⟨x,hx,hv x hx hB.2.1,hB⟩
def lookRes (ok:Bool) (v:V) (b:Bool):V:=match ok with | true=>.tup [v,.bool b] | false=>v
theorem lookRes_rel {w:World}{F:Nat→Prop}{m:MM}{v:V}{c:Value}(ok b:Bool) (h:VRel w F m v c):VRel w F m (lookRes ok v b) (if ok then .tuple #[c,.bool b] else c):=by
 cases ok with
 | false=>exact h
 | true =>
  refine .tup _ [c,.bool b] rfl fun j u x hj hx=>?_
  match j with
  | 0=>simp at hj hx;subst hj hx;exact h
  | 1=>simp at hj hx;subst hj hx;exact .bool b
  | j+2=>simp at hj
def zeroV (ti:TI):Option V:=part ti ti.zero 0
def aggZ:Value→Bool
 | .agg _=>true
 | _=>false
def zokB (P:Program) (t:Nat) (b:Bool):Bool:=match (P.info? t).bind (·.zero) with | some z=>aggZ z == b | none=>false
def zok (P:Program) (t:Nat) (b:Bool):Prop:=zokB P t b=true
attribute [irreducible] zok
theorem zok_intro {P:Program}{t:Nat}{b:Bool}{X:Prop}(h:zokB P t b=true) (hx:X):zok P t b∧X:=by unfold zok;exact ⟨h,hx⟩
theorem run_zeroV {P:Program}{t:Nat}{ti:TI}(hT:TOK P t ti) (hz:zok P t ti.k.agg) {v:V}(hv:zeroV ti=some v) (w:World) (F:Nat→Prop) (m:MM):∃ c,(zeroValue t).run P w=.ok c w∧VRel w F m v c∧v.sites=[]:=by
 have hzs:=zero_sites hT;unfold zok zokB at hz;obtain ⟨d,i,z,h1,h2,h3,h4,h5,h6,h7,h8,h9,h10⟩:=hT;simp only [h2,Option.bind_some,h6,beq_iff_eq] at hz;refine ⟨z,by simp [zeroValue,typeInfo,h2,h6],?_,?_⟩
 ·unfold zeroV part at hv;have hrel:∀ (j:Nat) v x,ti.zero[j]?=some v→z.cells.toList[j]?=some x→VRel w F m v x:=fun j u x hj hx=>by
   rw [h7,List.getElem?_map,hx] at hj;simp at hj;subst hj;exact constV_rel _ _ _ x
  split at hv
  ·rename_i hag;rw [hag] at hz;split at hv
   ·cases hv;have hl:ti.zero.length=ti.sz:=by rw [h7];simpa using h8
    have:(ti.zero.drop 0).take ti.sz=ti.zero:=by rw [List.drop_zero,←hl,List.take_length]
    rw [this];cases z<;>simp only [aggZ] at hz<;>first | cases hz | skip
    rename_i cs;have:=VRel.agg (w:=w) (F:=F) (m:=m) ti.zero cs.toList (by rw [h7];simp [Value.cells]) (fun x hx=>(Array.all_eq_true'.1 h9) x (by simpa [Value.cells] using hx)) (fun j u hj=>List.all_eq_true.1 h10 u (List.mem_of_getElem? hj)) (fun j u x hj hx=>hrel j u x hj (by simpa [Value.cells] using hx));simpa using this
   ·cases hv
  ·rename_i hag;rw [hag] at hz;have hone:z.cells=#[z]:=by cases z<;>simp only [aggZ] at hz<;>first | (cases hz;done) | rfl
   rw [h7,hone] at hv;simp at hv;subst hv;exact constV_rel _ _ _ z
 ·exact List.eq_nil_iff_forall_not_mem.2 fun k hk=>by
   obtain ⟨u,hu,hk⟩:=part_sites hv k hk;rw [hzs u hu] at hk;cases hk
def runMakeMap (T:List (Nat×TI)) (dst:Option Nat) (t:Nat) (r:Option V) (K:Kont):Prop:=
 match look T t,r,dst with
 | some ⟨.map _ _,_,_,_⟩,none,some d=>K (.omap d 0) [.fresh d (.map [] 0 (some []))] []
 | some ⟨.map _ _,_,_,_⟩,some (.int _ _),some d=>K (.omap d 0) [.fresh d (.map [] 0 (some []))] []
 | _,_,_=>False
theorem fresh_map [Glob] {Γ:Ctx}{m:MM}{s:ASt}{a:Act}{w:World}(hr:Rel Γ m s a w) (d:Nat) (hd:s.used d=false) :
  Rel Γ (MM.fresh m d ⟨w.heap.size,0,0,0,false⟩) (s.fresh d (.map [] 0 (some []))) a (w.alloc (.map #[] 0)):=by
 have hh:(w.alloc (.map #[] 0)).heap=w.heap.push (.map #[] 0):=rfl;refine hr.fresh d hd _ _ (fun b hb=>by rw [hh,Array.getElem?_push,if_neg (by omega)]) (by rw [hh];simp) rfl ⟨rfl,fun _=>Nat.le_refl _⟩ rfl (fun _=>⟨Nat.le_refl _,by rw [hh];simp⟩) (fun k hk=>by cases hk) ?_;exact ⟨rfl,rfl,#[],by rw [hh];simp,rfl,by simp,by simp,by simp⟩
theorem runMakeMap_ok [Glob] (hT:TableOK P T) {t:Nat}{r:Option Operand}(hop:o.op=.makeMap t r) (hk:runMakeMap T o.dst t (r.map ρ) K):∃ v us rd,GoodV P N o ρ h v us rd∧K v us rd:=by
 unfold runMakeMap at hk;have key:∀ {d:Nat},(∀ (Γ:Ctx) (m:MM) (s:ASt) (a:Act) (w:World),Rel Γ m s a w→(∀ x∈o.op.operands,evalO s.env x=ρ x)→(execOp a.eval o).run P w=.ok (.value (.map (some w.heap.size))) (w.alloc (.map #[] 0)))→GoodV P N o ρ h (.omap d 0) [.fresh d (.map [] 0 (some []))] []:=by
  intro d hrun Γ m s a w hN hr ho _ hmade;have hd:s.used d=false:=hmade d (by simp [Up.made]);refine ⟨_,_,_,_,hrun Γ m s a w hr ho,.inl rfl,fresh_map hr d hd,.omap d 0 _ ⟨_,rfl⟩ fun x hx _=>?_,fun k hk=>?_⟩
  ·simp [MM.fresh] at hx;subst hx;rfl
  ·simp [V.sites] at hk;subst hk;simp [ASt.ups,ASt.up,ASt.fresh]
 split at hk
 ·rename_i kt et s0 b0 z0 d hti hrr hdst;refine ⟨_,_,_,key fun Γ m s a w hr ho=>?_,hk⟩;have:r=none:=by cases r with | none=>rfl | some _=>cases hrr
  subst this;simp [execOp,hop,Instr.makeMap,newObj,Sem.run]
 ·rename_i kt et s0 b0 z0 q n d hti hrr hdst;refine ⟨_,_,_,key fun Γ m s a w hr ho=>?_,hk⟩;cases r with
  | none=>cases hrr
  | some x =>
   obtain ⟨d0,i0,z0,g1,g2,g3,_⟩:=hT _ _ hti;have:=tkOf_map g3;subst this;have hv:=hr.evalO x;rw [ho x (by simp [hop,Op.operands]),Option.some.inj hrr] at hv;simp [execOp,hop,Instr.makeMap,newObj,Sem.run,run_underlying g1,hv.int_inv,asInt,asIntOf]
 ·exact hk.elim
def lookAt (es:List (Nat×V×V)) (z:V) (ok:Bool):Option (Nat×Nat×V)→V
 | some (_,_,v)=>lookRes ok v true
 | none=>lookRes ok z false
def mkD (es:List (Nat×V×V)):List (List V):=es.map fun p=>[p.2.1,p.2.2]
def runLookup (P:Program) (T:List (Nat×TI)) (h:Nat→List Blk) (t:Nat) (x k:V) (ok:Bool) (K:Kont):Prop:=
 match look T t with
 | some ⟨.map kt et,_,_,_⟩=>(match look T kt,look T et with
  | some tk,some te=>(match keyIs tk.k k,zeroV te with
   | true,some z=>zok P et te.k.agg∧(match x with
    | .nilm=>K (lookRes ok z false) [] []
    | .omap s i=>blkAt (h s) i fun b=>(match b with
     | .map es _ _=>∃ r,mapAt k es=some r∧K (lookAt es z ok r) [] [s]
     | _=>False)
    | .dmap rows=>∃ es,rows=mkD es∧∃ r,mapAt k es=some r∧K (lookAt es z ok r) [] []
    | _=>False)
   | _,_=>False)
  | _,_=>False)
 | _=>False
theorem run_lookup {kt et t:Nat}{kd:TypeDesc}(g1:P.underlying t=some (.map kt et)) (g2:P.underlying kt=some kd) {w:World}{ck cz:Value}{ok:Bool}{es:Array MapEntry}{x:Value}
  (hx:(x=.map none∧es=#[])∨∃ r cl,x=.map (some r)∧w.heap[r]?=some (.map es cl)) (hck:(Instr.checkKey es.isEmpty 10000 kt ck).run P w=.ok () w) {r:Option (Nat×Value)}(hf:Instr.findNow kd ck es.toList 0=some r) (hz:(zeroValue et).run P w=.ok cz w) :
  (Instr.lookup t x ck ok).run P w=.ok (match r with | some (_,v)=>if ok then .tuple #[v,.bool true] else v | none=>if ok then .tuple #[cz,.bool false] else cz) w:=by
 have hfk:(Instr.findKey kt ck es.toList).run P w=.ok r w:=by
  unfold Instr.findKey;simp [run_underlying g2,hf]
 rcases hx with ⟨rfl,rfl⟩ | ⟨q,cl,rfl,hq⟩
 ·have hck':(Instr.checkKey true 10000 kt ck).run P w=.ok () w:=hck;have hfk':(Instr.findKey kt ck []).run P w=.ok r w:=hfk;unfold Instr.lookup;cases r with
  | none=>simp [run_underlying g1,hck',hfk',hz]
  | some p=>simp [run_underlying g1,hck',hfk']
 ·unfold Instr.lookup;have hg:(getObj q).run P w=.ok (.map es cl) w:=by simp [getObj,Sem.run,hq]
  cases r with
  | none=>simp [run_underlying g1,hg,hck,hfk,hz]
  | some p=>simp [run_underlying g1,hg,hck,hfk]
theorem runLookup_ok [Glob] (hT:TableOK P T) {t:Nat}{x k:Operand}{ok:Bool}(hop:o.op=.lookup t x k ok) (hk:runLookup P T h t (ρ x) (ρ k) ok K):∃ v us rd,GoodV P N o ρ h v us rd∧K v us rd:=by
 have hmx:x∈o.op.operands:=by simp [hop,Op.operands]
 have hmk:k∈o.op.operands:=by simp [hop,Op.operands]
 unfold runLookup at hk;split at hk
 ·rename_i kt et s0 b0 z0 hti;split at hk
  ·rename_i tk te htk hte;split at hk
   ·rename_i z hkey hzv;obtain ⟨hzok,hk⟩:=hk;obtain ⟨d0,i0,zz,g1,g2,g3,_⟩:=hT _ _ hti;have:=tkOf_map g3;subst this;obtain ⟨kd,i1,z1,p1,p2,p3,_⟩:=hT _ _ htk;rw [←p3] at hkey;have hTe:=hT _ _ hte;split at hk
    ·rename_i hx;refine ⟨_,_,_,GoodV.still fun Γ m s a w hr ho hg=>?_,hk⟩;have hvx:=hr.evalO x;rw [ho x hmx,hx] at hvx;have hvk:=hr.evalO k;rw [ho k hmk] at hvk;obtain ⟨cz,e1,e2,e3⟩:=run_zeroV hTe hzok hzv w (Forb Γ m) m;generalize hcx:a.eval x=cx at hvx;cases hvx with
     | nilm =>
      refine ⟨_,?_,lookRes_rel ok false e2,fun k hk=>?_⟩
      ·simp only [execOp,hop];rw [hcx];have:=run_lookup (P:=P) (ok:=ok) g1 p1 (.inl ⟨rfl,rfl⟩) (checkKey_none p1 hkey hvk _ w) (r:=none) rfl e1;simp [this]
      ·exfalso;cases ok with
       | true=>simp [lookRes,V.sites,sitesL,e3] at hk
       | false=>simp [lookRes,e3] at hk
    ·rename_i s1 i1' hx;obtain ⟨b,hb,hk⟩:=blkAt_get hk;split at hk
     ·rename_i es clock ks;obtain ⟨r,hr0,hk⟩:=hk;refine ⟨_,_,_,GoodV.still fun Γ m s a w hr ho hg=>?_,hk⟩;have hvx:=hr.evalO x;rw [ho x hmx,hx] at hvx;have hvk:=hr.evalO k;rw [ho k hmk] at hvk;have hh:(s.heap s1)[i1']?=some (.map es clock ks):=by rw [hg s1 (by simp)];exact hb
      obtain ⟨y,hy,hc,hB⟩:=hr.omap_inv hvx hh;obtain ⟨h3,h4,ents,h5,h6,h7,h8,h9⟩:=hB;obtain ⟨cz,e1,e2,e3⟩:=run_zeroV hTe hzok hzv w (Forb Γ m) m;have hfind:=findNow_rel (kd:=kd) hkey hvk (ents:=ents.toList) 0 hr0 (by simpa using h6) (fun i b k v hi=>by
       obtain ⟨e,q1,_,_,_,q2,_⟩:=h9 i b k v hi
       exact ⟨e,by simpa using q1,q2⟩)
      have hwi:=hr.useB s1 i1' _ hh;cases r with
      | none =>
       refine ⟨_,?_,lookRes_rel ok false e2,fun k hk=>?_⟩
       ·simp only [execOp,hop];rw [hc];have:=run_lookup (P:=P) (ok:=ok) g1 p1 (.inr ⟨_,_,rfl,h5⟩) (checkKey_none p1 hkey hvk _ w) hfind e1;simp [this]
       ·exfalso;cases ok with
        | true=>simp [lookAt,lookRes,V.sites,sitesL,e3] at hk
        | false=>simp [lookAt,lookRes,e3] at hk
      | some p =>
       obtain ⟨i,b,v⟩:=p;obtain ⟨e,q1,q2,q3⟩:=hfind;obtain ⟨k',hk'⟩:=mapAt_vals hr0;obtain ⟨e',r1,r2,r3,r4,r5,r6⟩:=h9 i b k' v hk';have:e'=e:=by
        have q1':ents[i]?=some e:=by simpa using q1
        rw [q1'] at r1;exact (Option.some.inj r1).symm
       subst this;refine ⟨_,?_,lookRes_rel ok true r6,fun q hq=>?_⟩
       ·simp only [execOp,hop];rw [hc];have:=run_lookup (P:=P) (ok:=ok) g1 p1 (.inr ⟨_,_,rfl,h5⟩) (checkKey_none p1 hkey hvk _ w) q2 e1;simp [this]
       ·have hq:q∈v.sites:=by
         cases ok with
         | true=>simpa [lookAt,lookRes,V.sites,sitesL] using hq
         | false=>simpa [lookAt,lookRes] using hq
        cases ks with
        | none=>exact hwi i b k' v hk' q hq
        | some l=>exact hwi q (r4 l rfl q hq)
     ·exact hk.elim
    ·rename_i rows hx;obtain ⟨es,hes,r,hr0,hk⟩:=hk;have hsite:∀ (i:Nat) b k' v,es[i]?=some (b,k',v)→∃ row,rows[i]?=some row∧row[0]?=some k'∧row[1]?=some v:=fun i b k' v hi=>by
      refine ⟨[k',v],?_,rfl,rfl⟩;rw [hes];unfold mkD;rw [List.getElem?_map,hi];rfl
     refine ⟨_,_,_,GoodV.still fun Γ m s a w hr ho hg=>?_,hk⟩;have hvx:=hr.evalO x;rw [ho x hmx,hx] at hvx;have hvk:=hr.evalO k;rw [ho k hmk] at hvk;generalize hcx:a.eval x=cx at hvx;obtain ⟨cz,e1,e2,e3⟩:=run_zeroV hTe hzok hzv w (Forb Γ m) m;cases hvx with
     | dmap _ bb clock ents cc hF hh hsz hd hc hv =>
      have hlen:ents.size=es.length:=by rw [hsz,hes];simp [mkD]
      have hfind:=findNow_rel (kd:=kd) hkey hvk (ents:=ents.toList) 0 hr0 (by simpa using hlen) (fun i b k' v hi=>by
       have hlt:i<ents.size:=by have:=(List.getElem?_eq_some_iff.1 hi).1;omega
       obtain ⟨row,q1,q2,q3⟩:=hsite i b k' v hi
       refine ⟨ents[i],by simp [hlt],?_⟩
       have h7:=hc i ents[i] (by simp [hlt])
       rw [h7.1]
       exact hv i row 0 k' q1 q2)
      cases r with
      | none =>
       refine ⟨_,?_,lookRes_rel ok false e2,fun k hk=>?_⟩
       ·simp only [execOp,hop];rw [hcx];have:=run_lookup (P:=P) (ok:=ok) g1 p1 (.inr ⟨_,_,rfl,hh⟩) (checkKey_none p1 hkey hvk _ w) hfind e1;simp [this]
       ·exfalso;cases ok with
        | true=>simp [lookAt,lookRes,V.sites,sitesL,e3] at hk
        | false=>simp [lookAt,lookRes,e3] at hk
      | some p =>
       obtain ⟨i,b,v⟩:=p;obtain ⟨e,q1,q2,q3⟩:=hfind;obtain ⟨k',hk'⟩:=mapAt_vals hr0;obtain ⟨row,r1,r2,r3⟩:=hsite i b k' v hk';have q1':ents[i]?=some e:=by simpa using q1
       have h7:=(hc i e q1').2;have h8:VRel w (Forb Γ m) m v e.val:=by rw [h7];exact hv i row 1 v r1 r3
       refine ⟨_,?_,lookRes_rel ok true h8,fun q hq=>?_⟩
       ·simp only [execOp,hop];rw [hcx];have:=run_lookup (P:=P) (ok:=ok) g1 p1 (.inr ⟨_,_,rfl,hh⟩) (checkKey_none p1 hkey hvk _ w) q2 e1;simp [this]
       ·exfalso;have h0:=hd i row 1 v r1 r3;cases ok with
        | true=>simp [lookAt,lookRes,V.sites,sitesL,h0] at hq
        | false=>simp [lookAt,lookRes,h0] at hq
    ·exact hk.elim
   ·exact hk.elim
  ·exact hk.elim
 ·exact hk.elim
end
end Go.Sx
namespace Go.Sx
open Go
section
variable {P:Program}{N:NB}{T:List (Nat×TI)}{o:Oper}{h:Nat→List Blk}{K:Kont}{ρ:Operand→V}
def World.setMap (w:World) (b:Nat) (ents:Array MapEntry) (clock:Nat):World:={ w with heap:=w.heap.setIfInBounds b (.map ents clock) }
theorem run_setMap {w:World}{b:Nat}{ents:Array MapEntry}{clock:Nat}(hb:w.heap[b]?=some (.map ents clock)) (ents':Array MapEntry) (clock':Nat) :
  (setObj b (.map ents' clock')).run P w=.ok () (World.setMap w b ents' clock'):=by
 simp [setObj,Sem.run,hb,World.setMap]
def EntsOK (w:World) (F:Nat→Prop) (m:MM) (ents:Array MapEntry) (es:List (Nat×V×V)) (clock:Nat) (ks:Option (List Nat)):Prop:=
 ents.size=es.length∧(∀ (i:Nat) e,ents[i]?=some e→e.born<clock)∧(∀ (i j:Nat) e f,ents[i]?=some e→ents[j]?=some f→i<j→e.born<f.born) ∧
  ∀ (i:Nat) b k v,es[i]?=some (b,k,v)→∃ e,ents[i]?=some e∧e.born=b∧k.sites=[]∧(∀ l,ks=some l→∀ s∈v.sites,s∈l)∧VRel w F m k e.key∧VRel w F m v e.val
theorem map_change [Glob] {Γ:Ctx}{m:MM}{s:ASt}{a:Act}{w:World}(hr:Rel Γ m s a w) {k i:Nat}{es:List (Nat×V×V)}{clock:Nat}{ks:Option (List Nat)}{x:MB}(hh:(s.heap k)[i]?=some (.map es clock ks)) (hx:m k i=some x)
  (hB:MapOK w (Forb Γ m) m x es clock ks) {ents':Array MapEntry}{es':List (Nat×V×V)}{clock':Nat}{ks':Option (List Nat)}(hE:EntsOK w (Forb Γ m) m ents' es' clock' ks') (hwi:(Blk.map es' clock' ks').within s.used) :
  ∃ m',Rel Γ m' (s.at k i (.map es' clock' ks')) a (World.setMap w x.b ents' clock')∧(∀ {v c},VRel w (Forb Γ m) m v c→VRel (World.setMap w x.b ents' clock') (Forb Γ m') m' v c):=by
 obtain ⟨h3,h4,ents,h5,h6,h7,h8,h9⟩:=hB;have hlt:x.b<w.heap.size:=(hr.fr k i x hx h3).2.1;have hw:∀ b,b<w.heap.size→(x.nil=false→b≠x.b)→(World.setMap w x.b ents' clock').heap[b]?=w.heap[b]?:=fun b hb hne=>by
  simp only [World.setMap];rw [Array.getElem?_setIfInBounds_ne (Ne.symm (hne h3))]
 have hz:w.heap.size≤(World.setMap w x.b ents' clock').heap.size:=by simp [World.setMap]
 have hs:∀ b e n,w.shape? b=some (e,n)→(World.setMap w x.b ents' clock').shape? b=some (e,n):=fun b e n hb=>by
  by_cases he:b=x.b
  ·subst he;simp [World.shape?,h5] at hb
  ·rw [shape?_of_heap (w:=w) (hw b (shape_lt hb) fun _=>he)];exact hb
 have carry:∀ {v c},VRel w (Forb Γ m) m v c→VRel (World.setMap w x.b ents' clock') (Forb Γ (MM.at m k i x)) (MM.at m k i x) v c:=fun hv=>Rel.carryAt hx (.inl rfl) hw hz hs (fun _=>.inl ⟨h3,rfl⟩) hv;refine ⟨_,hr.at k i hh hx x _ (.inl rfl) hw hz hs rfl ⟨rfl,fun _=>Nat.le_refl _⟩ rfl (fun _=>.inl ⟨h3,rfl⟩) hwi ?_,carry⟩;obtain ⟨e1,e2,e3,e4⟩:=hE;refine ⟨h3,h4,ents',by simp [World.setMap,hlt],e1,e2,e3,fun i b k v hi=>?_⟩;obtain ⟨e,q1,q2,q3,q4,q5,q6⟩:=e4 i b k v hi;exact ⟨e,q1,q2,q3,q4,carry q5,carry q6⟩
theorem MapOK.ents {w:World}{F:Nat→Prop}{m:MM}{x:MB}{es:List (Nat×V×V)}{clock:Nat}{ks:Option (List Nat)}(hB:MapOK w F m x es clock ks):∃ ents,w.heap[x.b]?=some (.map ents clock)∧EntsOK w F m ents es clock ks:=by
 obtain ⟨h3,h4,ents,h5,h6,h7,h8,h9⟩:=hB;exact ⟨ents,h5,h6,h7,h8,h9⟩
theorem addKs_mem {ks:Option (List Nat)}{v:V}:(∀ l,addKs ks [v]=some l→∀ q∈v.sites,q∈l):=by
 intro l hl q hq;cases ks with
 | none=>cases hl
 | some l0=>simp [addKs] at hl;subst hl;simp [sitesL,hq]
theorem addKs_old {ks:Option (List Nat)}{cs:List V}{v:V}(h:∀ l,ks=some l→∀ q∈v.sites,q∈l):(∀ l,addKs ks cs=some l→∀ q∈v.sites,q∈l):=by
 intro l hl q hq;cases ks with
 | none=>cases hl
 | some l0=>simp [addKs] at hl;subst hl;exact List.mem_append_right _ (h l0 rfl q hq)
theorem EntsOK.set {w:World}{F:Nat→Prop}{m:MM}{ents:Array MapEntry}{es:List (Nat×V×V)}{clock:Nat}{ks:Option (List Nat)}(hE:EntsOK w F m ents es clock ks) {i b:Nat}{k v0 v:V}{c:Value}(hi:es[i]?=some (b,k,v0)) (hv:VRel w F m v c) :
  EntsOK w F m (ents.modify i fun e=>{ e with val:=c }) (es.set i (b,k,v)) clock (addKs ks [v]):=by
 obtain ⟨e1,e2,e3,e4⟩:=hE;have hb:∀ (j:Nat) e,(ents.modify i fun e=>{ e with val:=c })[j]?=some e→∃ e0,ents[j]?=some e0∧e.born=e0.born:=fun j e he=>by
  rw [Array.getElem?_modify] at he;split at he
  ·cases hq:ents[j]? with
   | none=>rw [hq] at he;cases he
   | some e0=>rw [hq] at he;cases he;exact ⟨e0,rfl,rfl⟩
  ·exact ⟨e,he,rfl⟩
 have hil:i<es.length:=(List.getElem?_eq_some_iff.1 hi).1;refine ⟨by simpa using e1,fun j e he=>?_,fun j l e f he hf hjl=>?_,fun j b' k' v' hj=>?_⟩
 ·obtain ⟨e0,h1,h2⟩:=hb j e he;rw [h2];exact e2 j e0 h1
 ·obtain ⟨e0,h1,h2⟩:=hb j e he;obtain ⟨f0,h3,h4⟩:=hb l f hf;rw [h2,h4];exact e3 j l e0 f0 h1 h3 hjl
 ·rw [List.getElem?_set] at hj;split at hj
  ·rename_i e;subst e;simp [hil] at hj;obtain ⟨rfl,rfl,rfl⟩:=hj;obtain ⟨e,q1,q2,q3,q4,q5,q6⟩:=e4 i b k v0 hi;refine ⟨{ e with val:=c },by rw [Array.getElem?_modify,if_pos rfl,q1];rfl,q2,q3,addKs_mem,q5,hv⟩
  ·rename_i hne;obtain ⟨e,q1,q2,q3,q4,q5,q6⟩:=e4 j b' k' v' hj;exact ⟨e,by rw [Array.getElem?_modify,if_neg hne];exact q1,q2,q3,addKs_old q4,q5,q6⟩
theorem EntsOK.push {w:World}{F:Nat→Prop}{m:MM}{ents:Array MapEntry}{es:List (Nat×V×V)}{clock:Nat}{ks:Option (List Nat)}(hE:EntsOK w F m ents es clock ks) {k v:V}{ck c:Value}(hk:VRel w F m k ck) (hks:k.sites=[]) (hv:VRel w F m v c) :
  EntsOK w F m (ents.push { key:=ck,val:=c,born:=clock }) (es++[(clock,k,v)]) (clock+1) (addKs ks [v]):=by
 obtain ⟨e1,e2,e3,e4⟩:=hE;refine ⟨by simp [e1],fun j e he=>?_,fun j l e f he hf hjl=>?_,fun j b' k' v' hj=>?_⟩
 ·rw [Array.getElem?_push] at he;split at he
  ·cases he;simp
  ·have:=e2 j e he;omega
 ·rw [Array.getElem?_push] at he hf;split at he
  ·rename_i hj;split at hf
   ·omega
   ·have:=(Array.getElem?_eq_some_iff.1 hf).1;omega
  ·split at hf
   ·cases hf;exact e2 j e he
   ·exact e3 j l e f he hf hjl
 ·rw [List.getElem?_append] at hj;split at hj
  ·rename_i hlt;obtain ⟨e,q1,q2,q3,q4,q5,q6⟩:=e4 j b' k' v' hj;exact ⟨e,by rw [Array.getElem?_push,if_neg (by omega)];exact q1,q2,q3,addKs_old q4,q5,q6⟩
  ·rename_i hge;have hj0:j-es.length=0:=by
    rcases Nat.eq_zero_or_pos (j-es.length) with h0 | h0
    ·exact h0
    ·rw [List.getElem?_eq_none (by simp;omega)] at hj;cases hj
   rw [hj0] at hj;simp at hj;obtain ⟨rfl,rfl,rfl⟩:=hj;exact ⟨_,by rw [Array.getElem?_push,if_pos (by omega)],rfl,hks,addKs_mem,hk,hv⟩
theorem within_set {U:Nat→Bool}{es:List (Nat×V×V)}{clock clock':Nat}{ks:Option (List Nat)}{i b:Nat}{k v:V}(hwi:(Blk.map es clock ks).within U) (hv:∀ q∈v.sites,U q=true):(Blk.map (es.set i (b,k,v)) clock' (addKs ks [v])).within U:=by
 cases ks with
 | none =>
  intro j b' k' v' hj q hq;rw [List.getElem?_set] at hj;split at hj
  ·split at hj
   ·cases hj;exact hv q hq
   ·cases hj
  ·exact hwi j b' k' v' hj q hq
 | some l =>
  intro q hq;simp only [sitesL,List.append_nil] at hq;rcases List.mem_append.1 hq with hq | hq
  ·exact hv q hq
  ·exact hwi q hq
theorem within_push {U:Nat→Bool}{es:List (Nat×V×V)}{clock clock':Nat}{ks:Option (List Nat)}{b:Nat}{k v:V}(hwi:(Blk.map es clock ks).within U) (hv:∀ q∈v.sites,U q=true):(Blk.map (es++[(b,k,v)]) clock' (addKs ks [v])).within U:=by
 cases ks with
 | none =>
  intro j b' k' v' hj q hq;rw [List.getElem?_append] at hj;split at hj
  ·exact hwi j b' k' v' hj q hq
  ·have:=List.mem_of_getElem? hj;simp at this;obtain ⟨rfl,rfl,rfl⟩:=this;exact hv q hq
 | some l =>
  intro q hq;simp only [sitesL,List.append_nil] at hq;rcases List.mem_append.1 hq with hq | hq
  ·exact hv q hq
  ·exact hwi q hq
theorem keyIs_sites {tk:TK}{k:V}(h:keyIs tk k=true):k.sites=[]:=by
 cases k<;>cases tk<;>simp only [keyIs] at h<;>first | (cases h;done) | simp [V.sites]
def runMapUpdate (T:List (Nat×TI)) (h:Nat→List Blk) (t:Nat) (x k v:V) (K:Kont):Prop:=
 match look T t with
 | some ⟨.map kt et,_,_,_⟩=>(match look T kt with
  | some tk=>(match keyIs tk.k k,x with
   | true,.omap s i=>blkAt (h s) i fun b=>(match b with
    | .map es clock ks=>∃ r,mapAt k es=some r∧(match r with
     | some (j,b,_)=>K .dead [.upd s i (.map (es.set j (b,k,v)) clock (addKs ks [v]))] [s]
     | none=>K .dead [.upd s i (.map (es++[(clock,k,v)]) (clock+1) (addKs ks [v]))] [s])
    | _=>False)
   | _,_=>False)
  | none=>False)
 | _=>False
theorem eqKey_same {k k':V}(h:eqKey k k'=some true):k'=k:=by
 unfold eqKey at h;split at h
 ·simp at h;rw [h]
 ·split at h
  ·rename_i e;have e:=of_decide_eq_true e;simp at h;rw [h,e]
  ·cases h
 ·simp at h;rw [h]
 ·cases h
theorem modify_key {ents:Array MapEntry}{i:Nat}{e:MapEntry}{c v:Value}(he:ents[i]?=some e) (hk:e.key=c):(ents.modify i fun e=>{ e with key:=c,val:=v })=ents.modify i fun e=>{ e with val:=v }:=by
 apply Array.ext (by simp);intro j h1 h2;rw [Array.getElem_modify,Array.getElem_modify];split
 ·rename_i hj;subst hj;obtain ⟨h3,h4⟩:=Array.getElem?_eq_some_iff.1 he;simp only [h4,←hk]
 ·rfl
theorem runMapUpdate_ok [Glob] (hT:TableOK P T) {t:Nat}{x k v:Operand}(hop:o.op=.mapUpdate t x k v∨o.op=.insert t x k v) (hk:runMapUpdate T h t (ρ x) (ρ k) (ρ v) K):∃ v us rd,GoodV P N o ρ h v us rd∧K v us rd:=by
 have hmx:x∈o.op.operands:=by rcases hop with e | e<;>simp [e,Op.operands]
 have hmk:k∈o.op.operands:=by rcases hop with e | e<;>simp [e,Op.operands]
 have hmv:v∈o.op.operands:=by rcases hop with e | e<;>simp [e,Op.operands]
 have hexec:∀ {a:Act}{w w':World},(Instr.mapUpdate t (a.eval x) (a.eval k) (a.eval v)).run P w=.ok () w'→∃ nx,(execOp a.eval o).run P w=.ok nx w'∧(nx=.value undef∨(nx=.skip∧undef=undef)):=fun hv=>by
  rcases hop with e | e
  ·refine ⟨_,by simp only [execOp,e];simp [hv];rfl,?_⟩
   first | exact .inr ⟨rfl,rfl⟩ | exact .inl rfl
  ·refine ⟨_,by simp only [execOp,e];simp [hv];rfl,?_⟩
   first | exact .inr ⟨rfl,rfl⟩ | exact .inl rfl
 unfold runMapUpdate at hk;split at hk
 ·rename_i kt et s0 b0 z0 hti;split at hk
  ·rename_i tk htk;split at hk
   ·rename_i s1 i1 hkey hx;obtain ⟨d0,i0,zz,g1,g2,g3,_⟩:=hT _ _ hti;have:=tkOf_map g3;subst this;obtain ⟨kd,i2,z1,p1,p2,p3,_⟩:=hT _ _ htk;rw [←p3] at hkey;obtain ⟨b,hb,hk⟩:=blkAt_get hk;split at hk
    ·rename_i es clock ks;obtain ⟨r,hr0,hk⟩:=hk;have common:∀ (Γ:Ctx) (m:MM) (s:ASt) (a:Act) (w:World),Rel Γ m s a w→(∀ x∈o.op.operands,evalO s.env x=ρ x)→(∀ k∈[s1],s.heap k=h k) →
       ∃ y ents,m s1 i1=some y∧a.eval x=.map (some y.b)∧MapOK w (Forb Γ m) m y es clock ks∧w.heap[y.b]?=some (.map ents clock)∧EntsOK w (Forb Γ m) m ents es clock ks∧VRel w (Forb Γ m) m (ρ k) (a.eval k)∧VRel w (Forb Γ m) m (ρ v) (a.eval v) ∧
        (∀ q∈(ρ v).sites,s.used q=true)∧(s.heap s1)[i1]?=some (.map es clock ks):=by
      intro Γ m s a w hr ho hg;have hvx:=hr.evalO x;rw [ho x hmx,hx] at hvx;have hvk:=hr.evalO k;rw [ho k hmk] at hvk;have hvv:=hr.evalO v;have hsv:=hr.sitesO v;rw [ho v hmv] at hvv hsv;have hh:(s.heap s1)[i1]?=some (.map es clock ks):=by rw [hg s1 (by simp)];exact hb
      obtain ⟨y,hy,hc,hB⟩:=hr.omap_inv hvx hh;obtain ⟨ents,h5,hE⟩:=hB.ents;exact ⟨y,ents,hy,hc,hB,h5,hE,hvk,hvv,hsv,hh⟩
     cases r with
     | some p =>
      obtain ⟨j,b',v0⟩:=p;refine ⟨_,_,_,fun Γ m s a w hN hr ho hg hmade=>?_,hk⟩;obtain ⟨y,ents,hy,hc,hB,h5,hE,hvk,hvv,hsv,hh⟩:=common Γ m s a w hr ho hg;have hfind:=findNow_rel (kd:=kd) hkey hvk (ents:=ents.toList) 0 hr0 (by simpa using hE.1) (fun i b k v hi=>by
       obtain ⟨e,q1,_,_,_,q2,_⟩:=hE.2.2.2 i b k v hi
       exact ⟨e,by simpa using q1,q2⟩)
      obtain ⟨e,q1,q2,q3⟩:=hfind;obtain ⟨k',hk',hkk⟩:=mapAt_some hr0;have:=eqKey_same hkk;subst this;have q1':ents[j]?=some e:=by simpa using q1
      have hst:=stays (P:=P) q3;obtain ⟨m',hr',carry⟩:=map_change hr hh hy hB (hE.set hk' hvv) (within_set (hr.useB s1 i1 _ hh) hsv);obtain ⟨nx,hnx,hnx2⟩:=hexec (a:=a) (w:=w) (w':=World.setMap w y.b (ents.modify j fun e=>{ e with val:=a.eval v }) clock) (by
       rw [hc]
       unfold Instr.mapUpdate
       have hg0:(getObj y.b).run P w=.ok (.map ents clock) w:=by simp [getObj,Sem.run,h5]
       have hf0:(Instr.findKey kt (a.eval k) ents.toList).run P w=.ok (some (0+j,e.val)) w:=by
        unfold Instr.findKey
        simp [run_underlying p1,q2]
       have hkx:((ents[j]?.map (·.key)).getD (a.eval k))=e.key:=by rw [q1'];rfl
       have hset:=run_setMap (P:=P) h5 (ents.modify j fun e=>{ e with key:=a.eval k,val:=a.eval v }) clock
       rw [modify_key q1' (hst w).2] at hset
       simp only [Nat.zero_add] at hf0
       simp [run_underlying g1,hg0,checkKey_none p1 hkey hvk,hf0,hkx,(hst w).1,modify_key q1' (hst w).2,hset])
      refine ⟨nx,undef,_,m',hnx,hnx2,hr',.dead _,fun k hk=>by cases hk⟩
     | none =>
      refine ⟨_,_,_,fun Γ m s a w hN hr ho hg hmade=>?_,hk⟩;obtain ⟨y,ents,hy,hc,hB,h5,hE,hvk,hvv,hsv,hh⟩:=common Γ m s a w hr ho hg;have hfind:=findNow_rel (kd:=kd) hkey hvk (ents:=ents.toList) 0 hr0 (by simpa using hE.1) (fun i b k v hi=>by
       obtain ⟨e,q1,_,_,_,q2,_⟩:=hE.2.2.2 i b k v hi
       exact ⟨e,by simpa using q1,q2⟩)
      obtain ⟨m',hr',carry⟩:=map_change hr hh hy hB (hE.push hvk (keyIs_sites hkey) hvv) (within_push (hr.useB s1 i1 _ hh) hsv);obtain ⟨nx,hnx,hnx2⟩:=hexec (a:=a) (w:=w) (w':=World.setMap w y.b (ents.push { key:=a.eval k,val:=a.eval v,born:=clock }) (clock+1)) (by
       rw [hc]
       unfold Instr.mapUpdate
       have hg0:(getObj y.b).run P w=.ok (.map ents clock) w:=by simp [getObj,Sem.run,h5]
       have hf0:(Instr.findKey kt (a.eval k) ents.toList).run P w=.ok none w:=by
        unfold Instr.findKey
        simp [run_underlying p1,hfind]
       have hset:=run_setMap (P:=P) h5 (ents.push { key:=a.eval k,val:=a.eval v,born:=clock }) (clock+1)
       simp [run_underlying g1,hg0,checkKey_none p1 hkey hvk,hf0,hset])
      refine ⟨nx,undef,_,m',hnx,hnx2,hr',.dead _,fun k hk=>by cases hk⟩
    ·exact hk.elim
   ·exact hk.elim
  ·exact hk.elim
 ·exact hk.elim
def runDelete (T:List (Nat×TI)) (h:Nat→List Blk) (t:Nat) (x k:V) (K:Kont):Prop:=
 match look T t with
 | some ⟨.map kt et,_,_,_⟩=>(match look T kt with
  | some tk=>(match keyIs tk.k k,x with
   | true,.omap s i=>blkAt (h s) i fun b=>(match b with
    | .map es clock ks=>∃ r,mapAt k es=some r∧(match r with
     | some (j,_,_)=>K (.tup []) [.upd s i (.map (es.eraseIdx j) clock ks)] [s]
     | none=>K (.tup []) [.upd s i (.map es clock ks)] [s])
    | _=>False)
   | _,_=>False)
  | none=>False)
 | _=>False
theorem EntsOK.erase {w:World}{F:Nat→Prop}{m:MM}{ents:Array MapEntry}{es:List (Nat×V×V)}{clock:Nat}{ks:Option (List Nat)}(hE:EntsOK w F m ents es clock ks) (j:Nat) (hj:j<es.length) :
  EntsOK w F m (ents.eraseIdxIfInBounds j) (es.eraseIdx j) clock ks:=by
 obtain ⟨e1,e2,e3,e4⟩:=hE;have hjs:j<ents.size:=by omega
 have heq:ents.eraseIdxIfInBounds j=ents.eraseIdx j hjs:=by simp [Array.eraseIdxIfInBounds,hjs]
 have hget:∀ (i:Nat),(ents.eraseIdxIfInBounds j)[i]?=if i<j then ents[i]? else ents[i+1]?:=fun i=>by
  rw [heq,Array.getElem?_eraseIdx]
 refine ⟨by rw [heq,Array.size_eraseIdx,List.length_eraseIdx,if_pos hj,e1],fun i e he=>?_,fun i l e f he hf hil=>?_,fun i b k v hi=>?_⟩
 ·rw [hget] at he;split at he
  ·exact e2 _ _ he
  ·exact e2 _ _ he
 ·rw [hget] at he hf;split at he<;>split at hf
  ·exact e3 _ _ _ _ he hf hil
  ·exact e3 _ _ _ _ he hf (by omega)
  ·omega
  ·exact e3 _ _ _ _ he hf (by omega)
 ·rw [List.getElem?_eraseIdx] at hi;rw [hget];split at hi
  ·rename_i hij;rw [if_pos hij];exact e4 _ _ _ _ hi
  ·rename_i hij;rw [if_neg hij];exact e4 _ _ _ _ hi
theorem runDelete_ok [Glob] (hT:TableOK P T) {c:Call}{t t2:Nat}{x k:Operand}(hop:o.op=.call c) (hc1:c.callee=.builtin .delete) (hc2:c.args=#[x,k]) (hc3:c.argTypes=#[t,t2])
  (hk:runDelete T h t (ρ x) (ρ k) K):∃ v us rd,GoodV P N o ρ h v us rd∧K v us rd:=by
 have hmx:x∈o.op.operands:=by simp [hop,Op.operands,Call.operands,hc1,hc2]
 have hmk:k∈o.op.operands:=by simp [hop,Op.operands,Call.operands,hc1,hc2]
 have hexec:∀ {a:Act}{w w':World}{v:Value},(Builtin.delete_ #[t,t2] o.type #[a.eval x,a.eval k]).run P w=.ok v w'→(execOp a.eval o).run P w=.ok (.value v) w':=fun hv=>by
  simp [execOp,hop,resolve,hc1,hc2,hc3,invoke,builtin,hv]
 unfold runDelete at hk;split at hk
 ·rename_i kt et s0 b0 z0 hti;split at hk
  ·rename_i tk htk;split at hk
   ·rename_i s1 i1 hkey hx;obtain ⟨d0,i0,zz,g1,g2,g3,_⟩:=hT _ _ hti;have:=tkOf_map g3;subst this;obtain ⟨kd,i2,z1,p1,p2,p3,_⟩:=hT _ _ htk;rw [←p3] at hkey;obtain ⟨b,hb,hk⟩:=blkAt_get hk;split at hk
    ·rename_i es clock ks;obtain ⟨r,hr0,hk⟩:=hk;have common:∀ (Γ:Ctx) (m:MM) (s:ASt) (a:Act) (w:World),Rel Γ m s a w→(∀ x∈o.op.operands,evalO s.env x=ρ x)→(∀ k∈[s1],s.heap k=h k) →
       ∃ y ents,m s1 i1=some y∧a.eval x=.map (some y.b)∧MapOK w (Forb Γ m) m y es clock ks∧w.heap[y.b]?=some (.map ents clock)∧EntsOK w (Forb Γ m) m ents es clock ks∧VRel w (Forb Γ m) m (ρ k) (a.eval k) ∧
        (s.heap s1)[i1]?=some (.map es clock ks):=by
      intro Γ m s a w hr ho hg;have hvx:=hr.evalO x;rw [ho x hmx,hx] at hvx;have hvk:=hr.evalO k;rw [ho k hmk] at hvk;have hh:(s.heap s1)[i1]?=some (.map es clock ks):=by rw [hg s1 (by simp)];exact hb
      obtain ⟨y,hy,hc,hB⟩:=hr.omap_inv hvx hh;obtain ⟨ents,h5,hE⟩:=hB.ents;exact ⟨y,ents,hy,hc,hB,h5,hE,hvk,hh⟩
     cases r with
     | some p =>
      obtain ⟨j,b',v0⟩:=p;refine ⟨_,_,_,fun Γ m s a w hN hr ho hg hmade=>?_,hk⟩;obtain ⟨y,ents,hy,hc,hB,h5,hE,hvk,hh⟩:=common Γ m s a w hr ho hg;have hfind:=findNow_rel (kd:=kd) hkey hvk (ents:=ents.toList) 0 hr0 (by simpa using hE.1) (fun i b k v hi=>by
       obtain ⟨e,q1,_,_,_,q2,_⟩:=hE.2.2.2 i b k v hi
       exact ⟨e,by simpa using q1,q2⟩)
      obtain ⟨e,q1,q2,q3⟩:=hfind;obtain ⟨k',hk',hkk⟩:=mapAt_some hr0;have hjl:j<es.length:=(List.getElem?_eq_some_iff.1 hk').1;have hwi:=hr.useB s1 i1 _ hh;obtain ⟨m',hr',carry⟩:=map_change hr hh hy hB (hE.erase j hjl) (es':=es.eraseIdx j) (ks':=ks) (by
       cases ks with
       | none =>
        intro i b k v hi
        have hmem:=List.mem_of_getElem? hi
        obtain ⟨i',hi'⟩:=List.mem_iff_getElem?.1 (List.mem_of_mem_eraseIdx hmem)
        exact hwi i' b k v hi'
       | some l=>exact hwi)
      refine ⟨.value (.tuple #[]),_,_,m',hexec ?_,.inl rfl,hr',.tup [] [] rfl (by simp),fun k hk=>by cases hk⟩;rw [hc];have hg0:(getObj y.b).run P w=.ok (.map ents clock) w:=by simp [getObj,Sem.run,h5]
      have hf0:(Instr.findKey kt (a.eval k) ents.toList).run P w=.ok (some (0+j,e.val)) w:=by
       unfold Instr.findKey;simp [run_underlying p1,q2]
      simp only [Nat.zero_add] at hf0;have hset:=run_setMap (P:=P) h5 (ents.eraseIdxIfInBounds j) clock;unfold Builtin.delete_;simp [run_underlying g1,hg0,checkKey_none p1 hkey hvk,hf0,hset]
     | none =>
      refine ⟨_,_,_,fun Γ m s a w hN hr ho hg hmade=>?_,hk⟩;obtain ⟨y,ents,hy,hc,hB,h5,hE,hvk,hh⟩:=common Γ m s a w hr ho hg;have hfind:=findNow_rel (kd:=kd) hkey hvk (ents:=ents.toList) 0 hr0 (by simpa using hE.1) (fun i b k v hi=>by
       obtain ⟨e,q1,_,_,_,q2,_⟩:=hE.2.2.2 i b k v hi
       exact ⟨e,by simpa using q1,q2⟩)
      obtain ⟨m',hr',carry⟩:=map_change hr hh hy hB hE (hr.useB s1 i1 _ hh);refine ⟨.value (.tuple #[]),_,_,m',hexec ?_,.inl rfl,hr',.tup [] [] rfl (by simp),fun k hk=>by cases hk⟩;rw [hc];have hg0:(getObj y.b).run P w=.ok (.map ents clock) w:=by simp [getObj,Sem.run,h5]
      have hf0:(Instr.findKey kt (a.eval k) ents.toList).run P w=.ok none w:=by
       unfold Instr.findKey;simp [run_underlying p1,hfind]
      have hset:=run_setMap (P:=P) h5 ents clock;unfold Builtin.delete_;simp [run_underlying g1,hg0,checkKey_none p1 hkey hvk,hf0,hset]
    ·exact hk.elim
   ·exact hk.elim
  ·exact hk.elim
 ·exact hk.elim
end
end Go.Sx
