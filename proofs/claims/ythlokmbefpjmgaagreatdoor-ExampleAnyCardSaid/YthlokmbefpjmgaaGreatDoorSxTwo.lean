/- How append, copy, clear, max, min, cap and comparisons are stepped through. -/
import Derived.Test.YthlokmbefpjmgaaGreatDoorSxOne
import Derived.Maps.RangeRun
import Derived.Lib.MinMax
import Derived.ChangeKeysEq
import Derived.Laws.StructEq
import Derived.Laws.IdiomStrings
set_option linter.unusedVariables false
set_option linter.unusedSimpArgs false
namespace Go.Sx
open Go
section
variable {P:Program}{N:NB}{T:List (Nat×TI)}{o:Oper}{h:Nat→List Blk}{K:Kont}{ρ:Operand→V}
theorem Rel.oslc_inv [Glob] {Γ:Ctx}{m:MM}{s:ASt}{a:Act}{w:World}(hr:Rel Γ m s a w) {k i o l n cap:Nat}{sz:Nat}{rows:List (List V)}{ks:Option (List Nat)}{c:Value}
  (hv:VRel w (Forb Γ m) m (.oslc k i o l n cap) c) (hh:(s.heap k)[i]?=some (.rows sz rows ks)) (hn:n=rows.length) :
  ∃ x,m k i=some x∧RowsOK w (Forb Γ m) m x sz rows ks∧o+l≤rows.length∧OslC w x o l cap c:=by
 obtain ⟨x,hx,hB⟩:=hr.heap k i (.rows sz rows ks) hh;have hB:RowsOK w (Forb Γ m) m x sz rows ks:=hB;cases hv with
 | oslc k i o l n cap c hc hv =>
  obtain ⟨h1,h2⟩:=hv x hx;obtain ⟨h3,h4⟩:=h2 (by rw [hB.hn,hn]);exact ⟨x,hx,hB,by omega,h4⟩
theorem OslC.len {w:World}{x:MB}{o l cap:Nat}{c:Value}(hc:OslC w x o l cap c):∃ a,c=.slice a l cap∧l≤cap∧cap≤maxLen:=by
 rcases hc with ⟨rfl,rfl,a,rfl⟩ | ⟨_,e,n,rfl,h1,h2,_⟩
 ·exact ⟨a,rfl,Nat.le_refl _,Nat.zero_le _⟩
 ·exact ⟨_,rfl,h1,h2⟩
def byteRows (s:List UInt8):List (List V):=s.map fun b=>[.int .u8 b.toNat]
structure SrcV where
 rows:List (List V)
 ks:Option (List Nat)
 rd:List Nat
 need:Prop
def srcV (h:Nat→List Blk) (sz:Nat) (x:V):Option SrcV:=
 match x with
 | .nils=>some ⟨[],some [],[],True⟩
 | .sle=>some ⟨[],some [],[],True⟩
 | .sl rows _=>some ⟨rows,some [],[],rowsSz rows sz⟩
 | .osl s i o l n=>match oslRows h s i with
  | some (sz',rows,ks)=>(match Nat.beq sz' sz with
   | true=>some ⟨(rows.drop o).take l,ks,[s],n=rows.length⟩
   | false=>none)
  | none=>none
 | .str s=>match Nat.beq sz 1 with
  | true=>some ⟨byteRows s,some [],[],True⟩
  | false=>none
 | _=>none
def rowsSites:List (List V)→List Nat
 | []=>[]
 | r::rs=>sitesL r++rowsSites rs
def ksOf (ks:Option (List Nat)) (rows:List (List V)):List Nat:=
 match ks with
 | some l=>l
 | none=>rowsSites rows
theorem rowsSites_mem {rows:List (List V)}{r:List V}{v:V}{k:Nat}(h1:r∈rows) (h2:v∈r) (h3:k∈v.sites):k∈rowsSites rows:=by
 induction rows with
 | nil=>cases h1
 | cons q rows ih =>
  simp only [rowsSites,List.mem_append];rcases List.mem_cons.1 h1 with e | e
  ·subst e;exact .inl (by rw [sitesL_eq];exact List.mem_flatMap.2 ⟨v,h2,h3⟩)
  ·exact .inr (ih e)
structure SrcOK (P:Program) (tx sz:Nat) (x:Value) (w:World) (F:Nat→Prop) (m:MM) (U:Nat→Bool) (q:SrcV) (cells:List Value):Prop where
 src:Src P sz tx x q.rows.length cells w
 len:∀ (i:Nat) r,q.rows[i]?=some r→r.length=sz
 one:∀ (i:Nat) r (j:Nat) v,q.rows[i]?=some r→r[j]?=some v→v.one=true
 ks:∀ (i:Nat) r (j:Nat) v,q.rows[i]?=some r→r[j]?=some v→∀ k∈v.sites,k∈ksOf q.ks q.rows
 use:∀ k∈ksOf q.ks q.rows,U k=true
 rel:∀ (i:Nat) r (j:Nat) v c,q.rows[i]?=some r→r[j]?=some v→cells[i*sz+j]?=some c→VRel w F m v c
 pre:∀ n,n≤q.rows.length→(Builtin.firstCells sz n x).run P w=.ok (cells.take (n*sz)).toArray w
theorem divmod_row {p sz n:Nat}(hp:p<n*sz):p / sz<n∧p % sz<sz∧p=p / sz*sz+p % sz:=by
 have hs:0<sz:=Nat.pos_of_ne_zero fun e=>by rw [e] at hp;simp at hp
 refine ⟨Nat.div_lt_of_lt_mul (by rwa [Nat.mul_comm] at hp),Nat.mod_lt _ hs,?_⟩;have:=Nat.div_add_mod p sz;rw [Nat.mul_comm] at this;exact this.symm
theorem cells_of_rows {w:World}{b base sz n:Nat}{R:Nat→Nat→Value→Prop}(hc:∀ i j,i<n→j<sz→∃ c,w.cell? ⟨b,base+i*sz+j,none⟩=some c∧c.oneCell'=true∧R i j c) :
  ∃ cells:List Value,cells.length=n*sz∧(∀ p c,cells[p]?=some c→w.cell? ⟨b,base+p,none⟩=some c)∧(∀ c∈cells,c.oneCell'=true)∧∀ i j c,i<n→j<sz→cells[i*sz+j]?=some c→R i j c:=by
 have key:∀ p,p<n*sz→∃ c,w.cell? ⟨b,base+p,none⟩=some c∧c.oneCell'=true∧R (p / sz) (p % sz) c:=by
  intro p hp;obtain ⟨h1,h2,h3⟩:=divmod_row hp;obtain ⟨c,g1,g2,g3⟩:=hc (p / sz) (p % sz) h1 h2;refine ⟨c,?_,g2,g3⟩;rw [Nat.add_assoc,←h3] at g1;exact g1
 refine ⟨(List.range (n*sz)).map fun p=>(w.cell? ⟨b,base+p,none⟩).getD undef,by simp,fun p c hp=>?_,fun c hcm=>?_,fun i j c hi hj hp=>?_⟩
 ·simp only [List.getElem?_map,Option.map_eq_some_iff] at hp;obtain ⟨p',hp',rfl⟩:=hp;obtain ⟨hp1,hp2⟩:=List.getElem?_eq_some_iff.1 hp';simp only [List.getElem_range] at hp2;subst hp2;obtain ⟨c,g1,_⟩:=key p (by simpa using hp1);rw [g1];rfl
 ·obtain ⟨p,hp,rfl⟩:=List.mem_map.1 hcm;obtain ⟨c,g1,g2,_⟩:=key p (List.mem_range.1 hp);rw [g1];exact g2
 ·simp only [List.getElem?_map,Option.map_eq_some_iff] at hp;obtain ⟨p',hp',rfl⟩:=hp;obtain ⟨hp1,hp2⟩:=List.getElem?_eq_some_iff.1 hp';simp only [List.getElem_range] at hp2;subst hp2;obtain ⟨c,g1,g2,g3⟩:=hc i j hi hj;rw [Nat.add_assoc] at g1;rw [g1];exact g3
theorem pre_nil {w:World}{sz:Nat}:∀ n,n≤0→(Builtin.firstCells sz n (.slice none 0 0)).run P w=.ok (([]:List Value).take (n*sz)).toArray w:=by
 intro n hn;simp [Builtin.firstCells]
theorem pre_slice {w:World}{sz N:Nat}{a:Addr}{l c:Nat}{cells:List Value}(hl:cells.length=N*sz) (h:∀ p c,cells[p]?=some c→w.cell? (a.add p)=some c):∀ n,n≤N→(Builtin.firstCells sz n (.slice (some a) l c)).run P w=.ok (cells.take (n*sz)).toArray w:=by
 intro n hn;have h1:n*sz≤N*sz:=Nat.mul_le_mul_right _ hn;have:=run_loadCells_list (P:=P) w a (cells.take (n*sz)) (fun j v hj=>h j v (by
  rw [List.getElem?_take] at hj
  split at hj
  ·exact hj
  ·cases hj))
 rw [List.length_take,hl,Nat.min_eq_left h1] at this;exact this
theorem pre_str {w:World}{l:List UInt8}:∀ n,n≤(byteRows l).length→(Builtin.firstCells 1 n (.string ⟨l.toArray⟩)).run P w=.ok ((byteCells ⟨l.toArray⟩).take (n*1)).toArray w:=by
 intro n hn;simp only [Builtin.firstCells,Sem.run_pure];congr 1;apply Array.ext';simp [byteCells,ByteArray.data_extract]
theorem src_ok [Glob] {Γ:Ctx}{m:MM}{s:ASt}{a:Act}{w:World}(hr:Rel Γ m s a w) {tx:Nat}{sz:Nat}{x:V}{c:Value}{q:SrcV}(hx:VRel w (Forb Γ m) m x c) (hq:srcV h sz x=some q) (hneed:q.need) (hrd:∀ k∈q.rd,s.heap k=h k)
  (ht:(∃ e',P.underlying tx=some (.slice e'))∧(∀ l,x≠.str l)∨P.underlying tx=some .string∧∃ l,x=.str l):∃ cells,SrcOK P tx sz c w (Forb Γ m) m s.used q cells:=by
 have hk:(∃ e',P.underlying tx=some (.slice e'))∨P.underlying tx=some .string:=ht.elim (fun h=>.inl h.1) (fun h=>.inr h.1);cases x with
 | nils =>
  simp only [srcV,Option.some.injEq] at hq;subst hq;cases hx;rcases hk with ⟨e',hk⟩ | hk
  ·exact ⟨[],Src.ofNil w hk 0,by simp,by simp,by simp,by simp [ksOf],by simp,pre_nil⟩
  ·rcases ht with ⟨⟨e',h1⟩,_⟩ | ⟨_,l,h2⟩
   ·rw [h1] at hk;cases hk
   ·cases h2
 | sl rows full =>
  simp only [srcV,Option.some.injEq] at hq;subst hq;have hks:∃ e',P.underlying tx=some (.slice e'):=by
   rcases ht with ⟨h1,_⟩ | ⟨_,l,h2⟩
   ·exact h1
   ·cases h2
  obtain ⟨e',hks⟩:=hks;have hrs:=rowsSz_elim hneed;cases hx with
  | nilsl full ad =>
   cases ad with
   | none=>exact ⟨[],Src.ofNil w hks 0,by simp,by simp,by simp,by simp [ksOf],by simp,pre_nil⟩
   | some ad=>exact ⟨[],Src.ofSlice w hks ad 0 0 [] (by simp) (by simp) (by simp),by simp,by simp,by simp,by simp [ksOf],by simp,pre_slice (N:=0) (by simp) (by simp)⟩
  | sl rows full sz' b base cap c hF hl hm hf hz hd h1 ho1 hc hv =>
   obtain ⟨cells,g1,g2,g3,g4⟩:=cells_of_rows (w:=w) (b:=b) (base:=base) (sz:=sz) (n:=rows.length) (R:=fun i j c=>∀ r v,rows[i]?=some r→r[j]?=some v→VRel w (Forb Γ m) m v c) (fun i j hi hj=>by
    have hr1:=List.getElem?_eq_getElem hi
    have hrl:=hrs rows[i] (List.getElem_mem hi)
    have hv1:=List.getElem?_eq_getElem (show j<rows[i].length by omega)
    have hz1:=hz i _ hr1
    refine ⟨c i j,?_,ho1 i _ j _ hr1 hv1,fun r v hr2 hv2=>?_⟩
    ·have:=hc i _ j _ hr1 hv1
     rwa [←hz1,hrl] at this
    ·rw [hr1] at hr2;cases hr2
     rw [hv1] at hv2;cases hv2
     exact hv i _ j _ hr1 hv1)
   refine ⟨cells,Src.ofSlice w hks _ _ _ cells g1 (fun p c hp=>by rw [add_lit];exact g2 p c hp) g3,fun i r hi=>hrs r (List.mem_of_getElem? hi),fun i r j v hi hj=>h1 i r j v hi hj,fun i r j v hi hj k hk=>(by rw [hd i r j v hi hj] at hk;cases hk),by simp [ksOf],fun i r j v c' hi hj hcc=>?_,pre_slice g1 (fun p c hp=>by rw [add_lit];exact g2 p c hp)⟩;refine g4 i j c' (List.getElem?_eq_some_iff.1 hi).1 ?_ hcc r v hi hj;have:=(List.getElem?_eq_some_iff.1 hj).1;rw [hrs r (List.mem_of_getElem? hi)] at this;exact this
 | osl k i o' l n =>
  simp only [srcV] at hq;split at hq
  ·rename_i sz' rows ks hh;split at hq
   ·rename_i hsz;have hsz:=Nat.eq_of_beq_eq_true hsz;cases hq;have hks:∃ e',P.underlying tx=some (.slice e'):=by
     rcases ht with ⟨h1,_⟩ | ⟨_,l,h2⟩
     ·exact h1
     ·cases h2
    obtain ⟨e',hks⟩:=hks;have hh':(s.heap k)[i]?=some (.rows sz' rows ks):=by rw [hrd k (by simp)];exact oslRows_some hh
    obtain ⟨y,hy,hB,hle,hos⟩:=hr.osl_inv hx hh' hneed;have hget:∀ (i:Nat) (r:List V),((rows.drop o').take l)[i]?=some r→rows[o' + i]?=some r∧i<l:=by
     intro i r hi;rw [List.getElem?_take] at hi;split at hi
     ·rename_i h;rw [List.getElem?_drop] at hi;exact ⟨hi,h⟩
     ·cases hi
    have hlen:((rows.drop o').take l).length=l:=by simp;omega
    have hw:=hr.useB k i _ hh';have hsite:∀ (i:Nat) r (j:Nat) v,((rows.drop o').take l)[i]?=some r→r[j]?=some v→∀ k∈v.sites,k∈ksOf ks ((rows.drop o').take l):=by
     intro i r j v hi hj q hq;cases ks with
     | none=>exact rowsSites_mem (List.mem_of_getElem? hi) (List.mem_of_getElem? hj) hq
     | some L=>exact (hB.cell _ r j v (hget i r hi).1 hj).2.1 L rfl q hq
    have huse:∀ q∈ksOf ks ((rows.drop o').take l),s.used q=true:=by
     intro q hq;cases ks with
     | none =>
      have:∃ r∈(rows.drop o').take l,∃ v∈r,q∈v.sites:=by
       simp only [ksOf] at hq;generalize (rows.drop o').take l=L at hq
       induction L with
       | nil=>simp [rowsSites] at hq
       | cons r L ih =>
        simp only [rowsSites,List.mem_append] at hq;rcases hq with hq | hq
        ·rw [sitesL_eq] at hq;obtain ⟨v,hv,hq⟩:=List.mem_flatMap.1 hq;exact ⟨r,by simp,v,hv,hq⟩
        ·obtain ⟨r',h1,h2⟩:=ih hq;exact ⟨r',List.mem_cons_of_mem _ h1,h2⟩
      obtain ⟨r,hr1,v,hv,hq⟩:=this;obtain ⟨i',hi'⟩:=List.getElem?_of_mem hr1;obtain ⟨j',hj'⟩:=List.getElem?_of_mem hv;exact hw _ r j' v (hget i' r hi').1 hj' q hq
     | some L=>exact hw q hq
    rcases hos with ⟨rfl,ad,rfl⟩ | ⟨hnil,cap,e1,n1,rfl,h6,h7,h8,h9⟩
    ·cases ad with
     | none =>
      refine ⟨[],?_,by simp,by simp,hsite,huse,by simp,by simpa using pre_nil⟩;simp only [List.take_zero,List.length_nil];exact Src.ofNil w hks 0
     | some ad =>
      refine ⟨[],?_,by simp,by simp,hsite,huse,by simp,by simpa using pre_slice (P:=P) (w:=w) (sz:=sz) (N:=0) (a:=ad) (l:=0) (c:=0) (cells:=[]) (by simp) (by simp)⟩;simp only [List.take_zero,List.length_nil];exact Src.ofSlice w hks ad 0 0 [] (by simp) (by simp) (by simp)
    ·obtain ⟨cells,c1,c2,c3,c4⟩:=cells_of_rows (w:=w) (b:=y.b) (base:=y.base+o' * y.sz) (sz:=sz) (n:=l) (R:=fun i j c=>∀ r v,rows[o' + i]?=some r→r[j]?=some v→VRel w (Forb Γ m) m v c) (fun i j hi hj=>by
      have hlt:o' + i<rows.length:=by omega
      have hr1:=List.getElem?_eq_getElem hlt
      have hrl:=hB.len _ _ hr1
      have hv1:=List.getElem?_eq_getElem (show j<rows[o' + i].length by omega)
      obtain ⟨b1,b2,c,b3,b4,b5⟩:=hB.cell _ _ j _ hr1 hv1
      refine ⟨c,?_,b4,fun r v hr2 hv2=>?_⟩
      ·rw [Nat.add_mul,←Nat.add_assoc,hsz] at b3
       rw [hB.hsz,hsz];exact b3
      ·rw [hr1] at hr2;cases hr2
       rw [hv1] at hv2;cases hv2
       exact b5)
     refine ⟨cells,?_,fun i r hi=>by rw [←hsz];exact hB.len _ r (hget i r hi).1,fun i r j v hi hj=>(hB.cell _ r j v (hget i r hi).1 hj).1,hsite,huse,fun i r j v c' hi hj hcc=>?_,by
      simp only [hlen]
      exact pre_slice c1 (fun p c hp=>by rw [add_lit];exact c2 p c hp)⟩
     ·have:=Src.ofSlice w hks ⟨y.b,y.base+o' * y.sz,none⟩ l cap cells c1 (fun p c hp=>by rw [add_lit];exact c2 p c hp) c3;simp only [hlen];exact this
     ·obtain ⟨h1,h2⟩:=hget i r hi;have hjl:=(List.getElem?_eq_some_iff.1 hj).1;rw [hB.len _ r h1,hsz] at hjl;exact c4 i j c' h2 hjl hcc r v h1 hj
   ·cases hq
  ·cases hq
 | str l =>
  simp only [srcV] at hq;split at hq
  ·rename_i hsz;have hsz:=Nat.eq_of_beq_eq_true hsz;subst hsz;cases hq;obtain ⟨rfl,hm⟩:=hx.str_inv;have hks:P.underlying tx=some .string:=by
    rcases ht with ⟨_,h2⟩ | ⟨h1,_⟩
    ·exact absurd rfl (h2 l)
    ·exact h1
   have hsrc:=Src.ofString w hks ⟨l.toArray⟩;have e1:(⟨l.toArray⟩:ByteArray).size=(byteRows l).length:=by simp [ByteArray.size,byteRows]
   rw [e1] at hsrc;refine ⟨_,hsrc,fun i r hi=>?_,fun i r j v hi hj=>?_,fun i r j v hi hj k hk=>?_,by simp [ksOf],fun i r j v c hi hj hc=>?_,pre_str⟩
   all_goals
    simp only [byteRows,List.getElem?_map,Option.map_eq_some_iff] at hi;obtain ⟨u,hu,rfl⟩:=hi
   ·rfl
   ·cases j with
    | zero=>simp at hj;subst hj;rfl
    | succ j=>simp at hj
   ·cases j with
    | zero=>simp at hj;subst hj;simp [V.sites] at hk
    | succ j=>simp at hj
   ·cases j with
    | zero =>
     simp at hj;subst hj;simp only [byteCells,Nat.mul_one,Nat.add_zero,List.getElem?_map,Option.map_eq_some_iff] at hc;obtain ⟨u',hu',rfl⟩:=hc;have:u=u':=by simpa [hu] using hu'
     subst this;exact .int _ _
    | succ j=>simp at hj
  ·cases hq
 | sle =>
  simp only [srcV,Option.some.injEq] at hq;subst hq;obtain ⟨e',hks⟩:∃ e',P.underlying tx=some (.slice e'):=by
   rcases ht with ⟨h1,_⟩ | ⟨_,l,h2⟩
   ·exact h1
   ·cases h2
  cases hx with
  | sle ad cap hc=>exact ⟨[],Src.ofSlice w hks ad 0 cap [] (by simp) (by simp) (by simp),by simp,by simp,by simp,by simp [ksOf],by simp,pre_slice (N:=0) (by simp) (by simp)⟩
 | _=>simp [srcV] at hq
def fitsV (n bytes:Nat):Prop:=n*bytes≤140737488355328∧n≤9223372036854775807
def joinKs (ks:Option (List Nat)) (rows:List (List V)) (ks2:Option (List Nat)) (rows2:List (List V)):Option (List Nat):=
 match ks,ks2 with
 | none,none=>none
 | _,_=>some (ksOf ks rows++ksOf ks2 rows2)
def runAppend (T:List (Nat×TI)) (h:Nat→List Blk) (dst:Option Nat) (t tx:Nat) (x y:V) (K:Kont):Prop:=
  match look T t,look T tx,dst with
  | some ⟨.sl e,_,_,_⟩,some tix,some d =>
    (match look T e with
    | none=>False
    | some ti =>
      match (match tix.k,y with | .sl _,.str _=>none | .sl _,_=>srcV h ti.sz y | .str,.str _=>srcV h ti.sz y | _,_=>none) with
      | none=>False
      | some q =>
        match x with
        | .nils=>q.need∧fitsV q.rows.length ti.bytes∧K (.osl d 0 0 q.rows.length q.rows.length) [.fresh d (.rows ti.sz q.rows q.ks)] q.rd
        | .sl rows true=>(q.need∧rowsSz rows ti.sz∧(q.rows=[]→rows=[]))∧fitsV (rows.length+q.rows.length) ti.bytes ∧
            K (.osl d 0 0 (rows.length+q.rows.length) (rows.length+q.rows.length)) [.fresh d (.rows ti.sz (rows++q.rows) (joinKs (some []) rows q.ks q.rows))] q.rd
        | .osl s i o l n=>(match oslRows h s i with
          | some (sz,rows,ks)=>(match Nat.beq sz ti.sz with
            | false=>False
            | true=>(q.need∧n=rows.length)∧fitsV (l+q.rows.length) ti.bytes ∧
                ((o = 0∧l = n∧K (.osl s i 0 (l+q.rows.length) (l+q.rows.length)) [.upd s i (.rows sz (rows++q.rows) (joinKs ks rows q.ks q.rows))] (s::q.rd)) ∨
                 (i=0∧K (.osl d 0 0 (l+q.rows.length) (l+q.rows.length)) [.upd s 0 .gone,.fresh d (.rows sz ((rows.drop o).take l++q.rows) (joinKs ks ((rows.drop o).take l) q.ks q.rows))] (s::q.rd))))
          | none=>False)
        | .oslc s i o l n cap=>(match oslRows h s i with
          | some (sz,rows,ks)=>(match Nat.beq sz ti.sz with
            | false=>False
            | true=>(q.need∧n=rows.length∧cap<l+q.rows.length)∧fitsV (l+q.rows.length) ti.bytes ∧
                K (.osl d 0 0 (l+q.rows.length) (l+q.rows.length)) [.fresh d (.rows ti.sz ((rows.drop o).take l++q.rows) (joinKs ks ((rows.drop o).take l) q.ks q.rows))] (s::q.rd))
          | none=>False)
        | _=>False)
  | _,_,_=>False
end
end Go.Sx
namespace Go.Sx
open Go
section
variable {P:Program}{N:NB}{T:List (Nat×TI)}{o:Oper}{h:Nat→List Blk}{K:Kont}{ρ:Operand→V}
theorem joinKs_within {U:Nat→Bool}{ks ks2:Option (List Nat)}{rows rows2:List (List V)}{sz:Nat}{rows':List (List V)}(h1:∀ k∈ksOf ks rows,U k=true) (h2:∀ k∈ksOf ks2 rows2,U k=true)
  (hr:∀ r∈rows',r∈rows∨r∈rows2):(Blk.rows sz rows' (joinKs ks rows ks2 rows2)).within U:=by
 unfold joinKs;split
 ·intro i r j v hi hj k hk;rcases hr r (List.mem_of_getElem? hi) with hm | hm
  ·exact h1 k (rowsSites_mem hm (List.mem_of_getElem? hj) hk)
  ·exact h2 k (rowsSites_mem hm (List.mem_of_getElem? hj) hk)
 ·intro k hk;rcases List.mem_append.1 hk with hk | hk
  ·exact h1 k hk
  ·exact h2 k hk
theorem joinKs_site {ks ks2:Option (List Nat)}{rows rows2:List (List V)}{S:List Nat}(h:(∀ k∈S,k∈ksOf ks rows)∨(∀ k∈S,k∈ksOf ks2 rows2)):∀ l,joinKs ks rows ks2 rows2=some l→∀ k∈S,k∈l:=by
 intro l hl k hk;unfold joinKs at hl;split at hl
 ·cases hl
 ·cases hl;rcases h with h | h
  ·exact List.mem_append_left _ (h k hk)
  ·exact List.mem_append_right _ (h k hk)
theorem grow_cells {w:World}{F:Nat→Prop}{m:MM}{sz:Nat}{rows rows2:List (List V)}{olds news:List Value}{rest:Array Value}(hl:olds.length=rows.length*sz) (hlr:∀ (i:Nat) r,rows[i]?=some r→r.length=sz)
  (h1:∀ (i:Nat) r (j:Nat) v c,rows[i]?=some r→r[j]?=some v→olds[i*sz+j]?=some c→VRel w F m v c) (hn:news.length=rows2.length*sz) (hlr2:∀ (i:Nat) r,rows2[i]?=some r→r.length=sz)
  (h2:∀ (i:Nat) r (j:Nat) v c,rows2[i]?=some r→r[j]?=some v→news[i*sz+j]?=some c→VRel w F m v c)
  (ho1:∀ c∈olds,c.oneCell'=true) (ho2:∀ c∈news,c.oneCell'=true) :
  ∀ (i:Nat) r (j:Nat) v,(rows++rows2)[i]?=some r→r[j]?=some v→∃ c,((olds++news).toArray++rest)[i*sz+j]?=some c∧c.oneCell'=true∧VRel w F m v c:=by
 intro i r j v hi hj;have hrl:r.length=sz:=by
  rw [List.getElem?_append] at hi;split at hi
  ·exact hlr i r hi
  ·exact hlr2 _ r hi
 have hjs:j<sz:=by rw [←hrl];exact (List.getElem?_eq_some_iff.1 hj).1
 have hil:i<rows.length+rows2.length:=by have:=(List.getElem?_eq_some_iff.1 hi).1;simpa using this
 have hpos:i*sz+j<(rows.length+rows2.length)*sz:=by
  calc i*sz+j<i*sz+sz:=by omega
   _=(i+1)*sz:=by rw [Nat.add_mul,Nat.one_mul]
   _≤_:=Nat.mul_le_mul_right _ hil
 rw [Nat.add_mul] at hpos;have hget:((olds++news).toArray++rest)[i*sz+j]?=(olds++news)[i*sz+j]?:=by
  rw [Array.getElem?_append_left (by simp;omega)];simp
 rw [hget];rw [List.getElem?_append] at hi;split at hi
 ·rename_i hlt;have hp:i*sz+j<rows.length*sz:=by
   calc i*sz+j<i*sz+sz:=by omega
    _=(i+1)*sz:=by rw [Nat.add_mul,Nat.one_mul]
    _≤_:=Nat.mul_le_mul_right _ hlt
  have hp':i*sz+j<olds.length:=by omega
  rw [List.getElem?_append_left hp'];have hc:=List.getElem?_eq_getElem hp';exact ⟨_,hc,ho1 _ (List.getElem_mem _),h1 i r j v _ hi hj hc⟩
 ·rename_i hge;have hge':rows.length*sz≤i*sz:=Nat.mul_le_mul_right _ (by omega);rw [List.getElem?_append_right (by omega),hl];have he:i*sz+j-rows.length*sz=(i-rows.length)*sz+j:=by rw [Nat.sub_mul];omega
  rw [he];have hp':(i-rows.length)*sz+j<news.length:=by rw [hn,Nat.sub_mul];omega
  have hc:=List.getElem?_eq_getElem hp';exact ⟨_,hc,ho2 _ (List.getElem_mem _),h2 _ r j v _ hi hj hc⟩
theorem fits_next {n old bytes:Nat}(h:old<n) (hf:fitsV n bytes):Builtin.nextslicecap n old*bytes≤281474976710656:=growslice_fits h hf.1
theorem exec_append {c:Call}{x y:Operand}{t tx:Nat}(hop:o.op=.call c) (hc1:c.callee=.builtin .append) (hc2:c.args=#[x,y]) (hc3:c.argTypes=#[t,tx]) {a:Act}{w w':World}{v:Value}
  (hv:(Builtin.append_ #[t,tx] o.type #[a.eval x,a.eval y]).run P w=.ok v w'):(execOp a.eval o).run P w=.ok (.value v) w':=by
 simp [execOp,hop,resolve,hc1,hc2,hc3,invoke,builtin,hv]
theorem run_append_empty_nil {t tx ty e:Nat}{i:TypeInfo}(ht:P.underlying t=some (.slice e)) (hi:P.info? e=some i) {x:Value}{w:World}(hs:Src P i.size tx x 0 [] w) (ad:Option Addr) :
  (Builtin.append_ #[t,tx] ty #[.slice ad 0 0,x]).run P w=.ok (.slice ad 0 0) w:=by
 rcases hs.kind with ⟨e',hk⟩ | hk<;>cases ad<;>simp [Builtin.append_,run_underlying ht,run_underlying hk,sizeOf,typeInfo,hi,hs.len,hs.cells,storeCells]
theorem drew_same [Glob] (w:World):w.drew.heap=w.heap∧w.drew.os=w.os∧TapeW w.drew w∧w.drew.output=w.output:=⟨rfl,rfl,⟨rfl,fun _=>Nat.le_succ _⟩,rfl⟩
theorem zeroCells_one {z:Array Value}{n:Nat}(h:(z.all fun c=>c.oneCell')=true):∀ c∈Builtin.zeroCells z n,c.oneCell'=true:=by
 intro c hc;obtain ⟨p,hp,rfl⟩:=Array.mem_iff_getElem.1 hc;simp only [Builtin.zeroCells,Array.size_map,Array.size_range] at hp;have hz:0<z.size:=Nat.pos_of_ne_zero fun e=>by rw [e] at hp;simp at hp
 have hlt:p % z.size<z.size:=Nat.mod_lt _ hz;simp only [Builtin.zeroCells,Array.getElem_map,Array.getElem_range];rw [getElem!_pos z (p % z.size) hlt];exact Array.all_eq_true.1 h _ hlt
theorem grown_one {olds news:List Value}{z:Array Value}{n:Nat}(h1:∀ c∈olds,c.oneCell'=true) (h2:∀ c∈news,c.oneCell'=true) (h:(z.all fun c=>c.oneCell')=true):∀ c∈(olds++news).toArray++Builtin.zeroCells z n,c.oneCell'=true:=by
 intro c hc;rcases Array.mem_append.1 hc with hc | hc
 ·rcases List.mem_append.1 (List.mem_toArray.1 hc) with hc | hc
  ·exact h1 c hc
  ·exact h2 c hc
 ·exact zeroCells_one h c hc
theorem append_fresh [Glob] {Γ:Ctx}{m:MM}{s:ASt}{a:Act}{w:World}(hr:Rel Γ m s a w) {d:Nat}(hd:s.used d=false) {e:Nat}{sz need cap:Nat}{rows:List (List V)}{ks:Option (List Nat)}{olds news:List Value}{z:Value}(hz:z.cells.size=sz) (hz1:(z.cells.all fun c=>c.oneCell')=true) (ho1:∀ c∈olds,c.oneCell'=true) (hn1:∀ c∈news,c.oneCell'=true)
  (hlen:∀ (i:Nat) r,rows[i]?=some r→r.length=sz) (hn:need=rows.length) (hcap:need≤cap) (hcm:cap≤maxLen) (hol:(olds++news).length=need*sz) (hwi:(Blk.rows sz rows ks).within s.used)
  (hone:∀ (i:Nat) r (j:Nat) v,rows[i]?=some r→r[j]?=some v→v.one=true∧(∀ l,ks=some l→∀ k∈v.sites,k∈l))
  (hc:∀ (i:Nat) r (j:Nat) v,rows[i]?=some r→r[j]?=some v→∃ c,((olds++news).toArray++Builtin.zeroCells z.cells (cap-need))[i*sz+j]?=some c∧c.oneCell'=true∧VRel w (Forb Γ m) m v c) :
  Rel Γ (MM.fresh m d ⟨w.heap.size,0,sz,rows.length,false⟩) (s.fresh d (.rows sz rows ks)) a (w.drew.alloc (.cells ((olds++news).toArray++Builtin.zeroCells z.cells (cap-need)) e)) ∧
  VRel (w.drew.alloc (.cells ((olds++news).toArray++Builtin.zeroCells z.cells (cap-need)) e)) (Forb Γ (MM.fresh m d ⟨w.heap.size,0,sz,rows.length,false⟩)) (MM.fresh m d ⟨w.heap.size,0,sz,rows.length,false⟩) (.osl d 0 0 need need) (.slice (some ⟨w.heap.size,0,none⟩) need cap):=by
 have hsize:((olds++news).toArray++Builtin.zeroCells z.cells (cap-need)).size=cap*sz:=by
  rw [Array.size_append,size_zeroCells,hz];simp only [List.size_toArray,hol];rw [←Nat.add_mul,show need+(cap-need)=cap by omega]
 refine ⟨fresh_rows hr (drew_same w) d hd _ e sz rows ks hlen (by rw [hsize,←hn];exact Nat.mul_le_mul_right _ hcap) (grown_one ho1 hn1 hz1) hwi fun i r j v hi hj=>?_,?_⟩
 ·obtain ⟨h1,h2⟩:=hone i r j v hi hj;obtain ⟨c,h3,h4,h5⟩:=hc i r j v hi hj;exact ⟨h1,h2,c,h3,h4,h5⟩
 ·rw [←hn];have:=shape_alloc_new w.drew ((olds++news).toArray++Builtin.zeroCells z.cells (cap-need)) e;exact fresh_osl hcap hcm this (by rw [hsize];exact Nat.le_refl _)
theorem Rel.freshNil [Glob] {Γ:Ctx}{m:MM}{s:ASt}{a:Act}{w:World}(hr:Rel Γ m s a w) {d:Nat}(hd:s.used d=false) {sz:Nat}{ks:Option (List Nat)}(hwi:(Blk.rows sz [] ks).within s.used) :
  Rel Γ (MM.fresh m d ⟨0,0,sz,0,true⟩) (s.fresh d (.rows sz [] ks)) a w∧∀ ad:Option Addr,VRel w (Forb Γ (MM.fresh m d ⟨0,0,sz,0,true⟩)) (MM.fresh m d ⟨0,0,sz,0,true⟩) (.osl d 0 0 0 0) (.slice ad 0 0):=by
 refine ⟨hr.fresh d hd _ _ (fun b _=>rfl) (Nat.le_refl _) rfl TapeW.self rfl (fun h=>by cases h) hwi ⟨rfl,rfl,by simp,fun _=>rfl,fun h=>(by cases h),by simp⟩,?_⟩;exact fun ad=>.osl _ _ _ _ _ _ ⟨_,_,_,rfl⟩ fun x hx=>by simp [MM.fresh] at hx;subst hx;exact ⟨Nat.le_refl _,fun _=>⟨by omega,.inl ⟨rfl,_,rfl⟩⟩⟩
end
end Go.Sx
namespace Go.Sx
open Go
section
variable {P:Program}{N:NB}{T:List (Nat×TI)}{o:Oper}{h:Nat→List Blk}{K:Kont}{ρ:Operand→V}
theorem mul_lt_of {i j sz n:Nat}(hi:i<n) (hj:j<sz):i*sz+j<n*sz:=by
 calc i*sz+j<i*sz+sz:=by omega
  _=(i+1)*sz:=by rw [Nat.add_mul,Nat.one_mul]
  _≤n*sz:=Nat.mul_le_mul_right _ hi
theorem append_room [Glob] {Γ:Ctx}{m:MM}{s:ASt}{a:Act}{w:World}(hr:Rel Γ m s a w) {k i sz:Nat}{rows rows2:List (List V)}{ks ks':Option (List Nat)}{x:MB}{news:List Value}{cap:Nat}{e:TypeId}{n1:Nat}
  (hbl:(s.heap k)[i]?=some (.rows sz rows ks)) (hx:m k i=some x) (hB:RowsOK w (Forb Γ m) m x sz rows ks) (hnil:x.nil=false) (hsh:w.shape? x.b=some (e,n1)) (hroom:rows.length+rows2.length≤cap) (hcm:cap≤maxLen) (hfit:x.base+cap*sz≤n1)
  (hnl:news.length=rows2.length*sz) (h1:∀ c∈news,c.oneCell'=true) (hlr2:∀ (i:Nat) r,rows2[i]?=some r→r.length=sz) (hwi:(Blk.rows sz (rows++rows2) ks').within s.used)
  (hone:∀ (i:Nat) r (j:Nat) v,(rows++rows2)[i]?=some r→r[j]?=some v→v.one=true∧(∀ l,ks'=some l→∀ k∈v.sites,k∈l))
  (h2:∀ (i:Nat) r (j:Nat) v c,rows2[i]?=some r→r[j]?=some v→news[i*sz+j]?=some c→VRel w (Forb Γ m) m v c) :
  Rel Γ (MM.at m k i { x with n:=rows.length+rows2.length }) (s.at k i (.rows sz (rows++rows2) ks')) a (w.setCells x.b (x.base+rows.length*sz) news) ∧
  VRel (w.setCells x.b (x.base+rows.length*sz) news) (Forb Γ (MM.at m k i { x with n:=rows.length+rows2.length })) (MM.at m k i { x with n:=rows.length+rows2.length }) (.osl k i 0 (rows.length+rows2.length) (rows.length+rows2.length)) (.slice (some ⟨x.b,x.base,none⟩) (rows.length+rows2.length) cap):=by
 obtain ⟨b1,b2,b3,b4,b5,b6⟩:=hB;obtain ⟨ccs,e',fz,hb,hfz,hsize,hc1⟩:=b5 hnil;have hn1:n1=ccs.size:=by
  simp only [World.shape?,hb,Option.some.injEq,Prod.mk.injEq] at hsh;exact hsh.2.symm
 have hadv:Adv x { x with n:=rows.length+rows2.length }:=by
  by_cases h0:rows2.length=0
  ·left;have:x.n=rows.length+rows2.length:=by rw [b2,h0];rfl
   cases x;simp_all
  ·right;show x.n<_;rw [b2];show rows.length<rows.length+rows2.length;omega
 have hle:(rows.length+rows2.length)*sz≤cap*sz:=Nat.mul_le_mul_right _ hroom;rw [Nat.add_mul] at hle;have hwith:∀ b,b<w.heap.size→(x.nil=false→b≠x.b)→(w.setCells x.b (x.base+rows.length*sz) news).heap[b]?=w.heap[b]?:=fun b hb hne=>World.heap_setCells_other w x.b _ news hb (hne hnil);have hz:w.heap.size≤(w.setCells x.b (x.base+rows.length*sz) news).heap.size:=by rw [size_setCells];exact Nat.le_refl _
 have hs:∀ b e n,w.shape? b=some (e,n)→(w.setCells x.b (x.base+rows.length*sz) news).shape? b=some (e,n):=fun b e n hh=>by rw [shape_setCells];exact hh
 have carry:∀ {v c},VRel w (Forb Γ m) m v c→VRel (w.setCells x.b (x.base+rows.length*sz) news) (Forb Γ (MM.at m k i { x with n:=rows.length+rows2.length })) (MM.at m k i { x with n:=rows.length+rows2.length }) v c:=fun hv=>Rel.carryAt hx hadv hwith hz hs (fun _=>.inl ⟨hnil,rfl⟩) hv;refine ⟨?_,?_⟩
 ·refine hr.at k i hbl hx _ _ hadv hwith hz hs (World.os_setCells w _ _ _) (tape_setCells _ _ _ _) (World.output_setCells w _ _ _) (fun _=>.inl ⟨hnil,rfl⟩) hwi ?_;refine ⟨b1,by simp,fun i2 r hi=>?_,fun hh=>(by rw [show ({ x with n:=rows.length+rows2.length }:MB).nil=x.nil from rfl,hnil] at hh;cases hh),fun _=>?_,fun i2 r j v hi hj=>?_⟩
  ·rw [List.getElem?_append] at hi;split at hi
   ·exact b3 i2 r hi
   ·exact hlr2 _ r hi
  ·obtain ⟨cs',g1,g2,g3⟩:=block_setCells x.b news (x.base+rows.length*sz) w ccs e' fz hb;refine ⟨cs',e',fz,g1,hfz,?_,g3 h1 hc1⟩;rw [g2,List.length_append,Nat.add_mul,←hn1];show x.base+_≤_;omega
  ·obtain ⟨o1,o2⟩:=hone i2 r j v hi hj;rw [List.getElem?_append] at hi;split at hi
   ·rename_i hlt;obtain ⟨g1,g2,c,g3,g4,g5⟩:=b6 i2 r j v hi hj;have hjs:j<sz:=by rw [←b3 i2 r hi];exact (List.getElem?_eq_some_iff.1 hj).1
    have hp:=mul_lt_of hlt hjs;refine ⟨o1,o2,c,?_,g4,carry g5⟩;rw [World.cell?_setCells_out]
    ·exact g3
    ·intro _ _;exact .inl (by show x.base+i2*sz+j<_;omega)
   ·rename_i hge;have hrl:=hlr2 _ r hi;have hjs:j<sz:=by rw [←hrl];exact (List.getElem?_eq_some_iff.1 hj).1
    have hlt2:i2-rows.length<rows2.length:=(List.getElem?_eq_some_iff.1 hi).1;have hp:=mul_lt_of hlt2 hjs;have hpn:(i2-rows.length)*sz+j<news.length:=by rw [hnl];exact hp
    have hc:=List.getElem?_eq_getElem hpn;have hin:=World.cell?_setCells_in x.b news (x.base+rows.length*sz) w (fun j2 hj2=>by
     simp only [World.cell?,hb]
     simp
     rw [hnl] at hj2
     omega) ((i2-rows.length)*sz+j) hpn
    refine ⟨o1,o2,_,?_,h1 _ (List.getElem_mem hpn),carry (h2 _ r j v _ hi hj hc)⟩;have hle2:rows.length*sz≤i2*sz:=Nat.mul_le_mul_right _ (by omega);have haddr:x.base+rows.length*sz+((i2-rows.length)*sz+j)=x.base+i2*sz+j:=by
     rw [Nat.sub_mul];omega
    rw [haddr] at hin;exact hin
 ·refine .osl _ _ _ _ _ _ ⟨_,_,_,rfl⟩ fun q hq=>?_;simp [MM.at] at hq;subst hq;refine ⟨Nat.le_refl _,fun _=>⟨by omega,.inr ⟨hnil,cap,e,n1,?_,hroom,hcm,by rw [shape_setCells];exact hsh,?_⟩⟩⟩
  ·simp
  ·show x.base+(0+cap)*x.sz≤n1;rw [b1,Nat.zero_add];exact hfit
theorem append_grow [Glob] {Γ:Ctx}{m:MM}{s:ASt}{a:Act}{w:World}(hr:Rel Γ m s a w) {k i sz need cap:Nat}{rows rows2:List (List V)}{ks ks':Option (List Nat)}{x:MB}{olds news:List Value}{z:Value}{e:Nat}(hz:z.cells.size=sz) (hz1:(z.cells.all fun c=>c.oneCell')=true) (ho1:∀ c∈olds,c.oneCell'=true) (hn1:∀ c∈news,c.oneCell'=true)
  (hbl:(s.heap k)[i]?=some (.rows sz rows ks)) (hx:m k i=some x) (hxn:x.n=rows.length) (hne:rows2.length≠0) (hn:need=rows.length+rows2.length) (hcap:need≤cap) (hcm:cap≤maxLen) (hol:(olds++news).length=need*sz)
  (hlen:∀ (i:Nat) r,(rows++rows2)[i]?=some r→r.length=sz) (hwi:(Blk.rows sz (rows++rows2) ks').within s.used)
  (hone:∀ (i:Nat) r (j:Nat) v,(rows++rows2)[i]?=some r→r[j]?=some v→v.one=true∧(∀ l,ks'=some l→∀ k∈v.sites,k∈l))
  (hc:∀ (i:Nat) r (j:Nat) v,(rows++rows2)[i]?=some r→r[j]?=some v→∃ c,((olds++news).toArray++Builtin.zeroCells z.cells (cap-need))[i*sz+j]?=some c∧c.oneCell'=true∧VRel w (Forb Γ m) m v c) :
  Rel Γ (MM.at m k i ⟨w.heap.size,0,sz,need,false⟩) (s.at k i (.rows sz (rows++rows2) ks')) a (w.drew.alloc (.cells ((olds++news).toArray++Builtin.zeroCells z.cells (cap-need)) e)) ∧
  VRel (w.drew.alloc (.cells ((olds++news).toArray++Builtin.zeroCells z.cells (cap-need)) e)) (Forb Γ (MM.at m k i ⟨w.heap.size,0,sz,need,false⟩)) (MM.at m k i ⟨w.heap.size,0,sz,need,false⟩) (.osl k i 0 need need) (.slice (some ⟨w.heap.size,0,none⟩) need cap):=by
 have hsize:((olds++news).toArray++Builtin.zeroCells z.cells (cap-need)).size=cap*sz:=by
  rw [Array.size_append,size_zeroCells,hz];simp only [List.size_toArray,hol];rw [←Nat.add_mul,show need+(cap-need)=cap by omega]
 have hc1:=grown_one (n:=cap-need) ho1 hn1 hz1;generalize hcs:((olds++news).toArray++Builtin.zeroCells z.cells (cap-need))=cs at *;have hadv:Adv x ⟨w.heap.size,0,sz,need,false⟩:=.inr (by rw [hxn];show rows.length<need;omega);have hh:(w.drew.alloc (.cells cs e)).heap=w.heap.push (.cells cs e):=rfl;have hw:∀ b,b<w.heap.size→(w.drew.alloc (.cells cs e)).heap[b]?=w.heap[b]?:=fun b hb=>by
  rw [hh,Array.getElem?_push,if_neg (by omega)]
 have hnew:(w.drew.alloc (.cells cs e)).heap[w.heap.size]?=some (.cells cs e):=by rw [hh];simp
 have hzz:w.heap.size≤(w.drew.alloc (.cells cs e)).heap.size:=by rw [hh];simp
 have hs:∀ b e' n,w.shape? b=some (e',n)→(w.drew.alloc (.cells cs e)).shape? b=some (e',n):=fun b e' n hs=>by rw [shape?_of_heap (hw b (shape_lt hs))];exact hs
 have carry:∀ {v c},VRel w (Forb Γ m) m v c→VRel (w.drew.alloc (.cells cs e)) (Forb Γ (MM.at m k i ⟨w.heap.size,0,sz,need,false⟩)) (MM.at m k i ⟨w.heap.size,0,sz,need,false⟩) v c:=fun hv=>Rel.carryAt hx hadv (fun b hb _=>hw b hb) hzz hs (fun _=>.inr (Nat.le_refl _)) hv;refine ⟨?_,?_⟩
 ·refine hr.at k i hbl hx _ _ hadv (fun b hb _=>hw b hb) hzz hs rfl ⟨rfl,fun _=>Nat.le_succ _⟩ rfl (fun _=>.inr ⟨Nat.le_refl _,by rw [hh];simp⟩) hwi ?_;refine ⟨rfl,by simp [hn],hlen,fun hh=>(by cases hh),fun _=>⟨cs,e,(0,0),hnew,fun o ho=>(by simp only at ho;omega),?_,hc1⟩,fun i2 r j v hi hj=>?_⟩
  ·simp only [Nat.zero_add,List.length_append,←hn];rw [hsize];exact Nat.mul_le_mul_right _ hcap
  ·obtain ⟨o1,o2⟩:=hone i2 r j v hi hj;obtain ⟨c,g1,g2,g3⟩:=hc i2 r j v hi hj;refine ⟨o1,o2,c,?_,g2,carry g3⟩;simp only [World.cell?,hnew,Nat.zero_add];exact g1
 ·refine .osl _ _ _ _ _ _ ⟨_,_,_,rfl⟩ fun q hq=>?_;simp [MM.at] at hq;subst hq;refine ⟨Nat.le_refl _,fun _=>⟨by omega,.inr ⟨rfl,cap,e,cs.size,by simp,hcap,hcm,?_,?_⟩⟩⟩
  ·exact shape_alloc_new w.drew cs e
  ·simp [hsize]
end
end Go.Sx
namespace Go.Sx
open Go
section
variable {P:Program}{N:NB}{T:List (Nat×TI)}{o:Oper}{h:Nat→List Blk}{K:Kont}{ρ:Operand→V}
theorem SrcOK.mono {tx sz:Nat}{x:Value}{w:World}{F F':Nat→Prop}{m m':MM}{U U':Nat→Bool}{q:SrcV}{cells:List Value}(hs:SrcOK P tx sz x w F m U q cells)
  (hU:∀ k,U k=true→U' k=true) (hv:∀ {v c},(∀ k∈V.sites v,U k=true)→VRel w F m v c→VRel w F' m' v c):SrcOK P tx sz x w F' m' U' q cells:=
 ⟨hs.src,hs.len,hs.one,hs.ks,fun k hk=>hU k (hs.use k hk),fun i r j v c hi hj hc=>hv (fun k hk=>hs.use k (hs.ks i r j v hi hj k hk)) (hs.rel i r j v c hi hj hc),hs.pre⟩
theorem ksOf_used {U:Nat→Bool}{sz:Nat}{rows:List (List V)}{ks:Option (List Nat)}(h:(Blk.rows sz rows ks).within U):∀ k∈ksOf ks rows,U k=true:=by
 cases ks with
 | some l=>exact h
 | none =>
  intro q hq;have:∃ r∈rows,∃ v∈r,q∈v.sites:=by
   simp only [ksOf] at hq;clear h
   induction rows with
   | nil=>simp [rowsSites] at hq
   | cons r L ih =>
    simp only [rowsSites,List.mem_append] at hq;rcases hq with hq | hq
    ·rw [sitesL_eq] at hq;obtain ⟨v,hv,hq⟩:=List.mem_flatMap.1 hq;exact ⟨r,by simp,v,hv,hq⟩
    ·obtain ⟨r',h1,h2⟩:=ih hq;exact ⟨r',List.mem_cons_of_mem _ h1,h2⟩
  obtain ⟨r,hr1,v,hv,hq⟩:=this;obtain ⟨i',hi'⟩:=List.getElem?_of_mem hr1;obtain ⟨j',hj'⟩:=List.getElem?_of_mem hv;exact h _ r j' v hi' hj' q hq
theorem join_one {ks ks2:Option (List Nat)}{rows rows2:List (List V)}(h1:∀ (i:Nat) r (j:Nat) v,rows[i]?=some r→r[j]?=some v→v.one=true∧∀ k∈v.sites,k∈ksOf ks rows)
  (h2:∀ (i:Nat) r (j:Nat) v,rows2[i]?=some r→r[j]?=some v→v.one=true∧∀ k∈v.sites,k∈ksOf ks2 rows2) :
  ∀ (i:Nat) r (j:Nat) v,(rows++rows2)[i]?=some r→r[j]?=some v→v.one=true∧(∀ l,joinKs ks rows ks2 rows2=some l→∀ k∈v.sites,k∈l):=by
 intro i r j v hi hj;rw [List.getElem?_append] at hi;split at hi
 ·obtain ⟨g1,g2⟩:=h1 _ r j v hi hj;exact ⟨g1,joinKs_site (.inl g2)⟩
 ·obtain ⟨g1,g2⟩:=h2 _ r j v hi hj;exact ⟨g1,joinKs_site (.inr g2)⟩
theorem rows_one {w:World}{F:Nat→Prop}{m:MM}{x:MB}{sz:Nat}{rows:List (List V)}{ks:Option (List Nat)}(hB:RowsOK w F m x sz rows ks) :
  ∀ (i:Nat) r (j:Nat) v,rows[i]?=some r→r[j]?=some v→v.one=true∧∀ k∈v.sites,k∈ksOf ks rows:=by
 intro i r j v hi hj;obtain ⟨g1,g2,_⟩:=hB.cell i r j v hi hj;refine ⟨g1,fun k hk=>?_⟩;cases ks with
 | none=>exact rowsSites_mem (List.mem_of_getElem? hi) (List.mem_of_getElem? hj) hk
 | some l=>exact g2 l rfl k hk
theorem append_core [Glob] {Γ:Ctx}{m:MM}{s:ASt}{a:Act}{w:World}(hr:Rel Γ m s a w) {e t tx ty:Nat}{ti:TI}(hT:TOK P e ti) (ht:P.underlying t=some (.slice e)) {k i:Nat}{rows:List (List V)}{ks:Option (List Nat)}{x:MB}{cx cy:Value}{q:SrcV}{cells:List Value}
  (hbl:(s.heap k)[i]?=some (.rows ti.sz rows ks)) (hx:m k i=some x) (hB:RowsOK w (Forb Γ m) m x ti.sz rows ks) (hos:OslOK w x 0 rows.length cx) (hs:SrcOK P tx ti.sz cy w (Forb Γ m) m s.used q cells)
  (hfit:fitsV (rows.length+q.rows.length) ti.bytes) :
  ∃ c w' m',(Builtin.append_ #[t,tx] ty #[cx,cy]).run P w=.ok c w'∧Rel Γ m' (s.at k i (.rows ti.sz (rows++q.rows) (joinKs ks rows q.ks q.rows))) a w' ∧
   VRel w' (Forb Γ m') m' (.osl k i 0 (rows.length+q.rows.length) (rows.length+q.rows.length)) c:=by
 obtain ⟨d,inf,z,g1,g2,g3,g4,g5,g6,g7,g8,g9,g10⟩:=hT;have hused:=ksOf_used (hr.useB k i _ hbl);have hone:=join_one (rows_one hB) (fun i r j v hi hj=>⟨hs.one i r j v hi hj,hs.ks i r j v hi hj⟩);have hwi:(Blk.rows ti.sz (rows++q.rows) (joinKs ks rows q.ks q.rows)).within s.used:=joinKs_within hused hs.use (fun r hr=>by simpa using hr);have hsrc:=hs.src;rw [←g4] at hsrc;have hnl:cells.length=q.rows.length*ti.sz:=hs.src.newsLen;have hlen:∀ (i:Nat) r,(rows++q.rows)[i]?=some r→r.length=ti.sz:=by
  intro i r hi;rw [List.getElem?_append] at hi;split at hi
  ·exact hB.len _ r hi
  ·exact hs.len _ r hi
 have h63:((rows.length+q.rows.length:Nat):Int)≤9223372036854775807:=by have:=hfit.2;omega
 have hml:rows.length+q.rows.length≤maxLen:=by have:=hfit.2;simpa [maxLen] using this
 have empty:q.rows=[]→rows=[]→∀ ad:Option Addr,cx=.slice ad 0 0→∃ c w' m',(Builtin.append_ #[t,tx] ty #[cx,cy]).run P w=.ok c w'∧Rel Γ m' (s.at k i (.rows ti.sz (rows++q.rows) (joinKs ks rows q.ks q.rows))) a w' ∧
   VRel w' (Forb Γ m') m' (.osl k i 0 (rows.length+q.rows.length) (rows.length+q.rows.length)) c:=by
  intro hq hrows ad hcx;have hc0:cells=[]:=by
   have:cells.length=0:=by rw [hnl,hq];simp
   exact List.length_eq_zero_iff.1 this
  have hs0:Src P inf.size tx cy 0 [] w:=by
   have:=hsrc;rw [hq,hc0] at this;exact this
  refine ⟨_,w,MM.at m k i x,by rw [hcx];exact run_append_empty_nil ht g2 hs0 ad,hr.at k i hbl hx x _ (.inl rfl) (fun _ _ _=>rfl) (Nat.le_refl _) (fun _ _ _ h=>h) rfl ⟨rfl,fun _=>Nat.le_refl _⟩ rfl (fun h=>.inl ⟨h,rfl⟩) hwi ?_,?_⟩
  ·have e1:rows++q.rows=[]:=by rw [hq,hrows];rfl
   rw [e1];obtain ⟨b1,b2,b3,b4,b5,b6⟩:=hB;rw [hrows] at b2 b5;exact ⟨b1,b2,by simp,fun _=>rfl,b5,by simp⟩
  ·refine .osl _ _ _ _ _ _ ⟨_,_,_,rfl⟩ fun y hy=>?_;simp [MM.at] at hy;subst hy;have hn:=hB.hn;refine ⟨by rw [hn,hq];simp,fun _=>⟨by omega,?_⟩⟩;have:rows.length+q.rows.length=rows.length:=by rw [hq];rfl
   rw [this,←hcx];exact hos
 have grow:∀ (base:Option Addr) (cap0:Nat) (olds:List Value),cx=.slice base rows.length cap0→cap0<rows.length+q.rows.length→q.rows.length≠0→(Builtin.firstCells inf.size rows.length (.slice base rows.length cap0)).run P w.drew=.ok olds.toArray w.drew →
   olds.length=rows.length*ti.sz→(∀ c∈olds,c.oneCell'=true)→(∀ (i:Nat) r (j:Nat) v c,rows[i]?=some r→r[j]?=some v→olds[i*ti.sz+j]?=some c→VRel w (Forb Γ m) m v c) →
   ∃ c w' m',(Builtin.append_ #[t,tx] ty #[cx,cy]).run P w=.ok c w'∧Rel Γ m' (s.at k i (.rows ti.sz (rows++q.rows) (joinKs ks rows q.ks q.rows))) a w' ∧
   VRel w' (Forb Γ m') m' (.osl k i 0 (rows.length+q.rows.length) (rows.length+q.rows.length)) c:=by
  intro base cap0 olds hcx hcap hq hold hol hol1 holv;have hrun:=run_append_grow_src (P:=P) w t tx ty e inf z ht g2 g6 base rows.length cap0 olds hold cy q.rows.length cells hsrc hcap h63 (by rw [g5];exact fits_next hcap hfit);have hg:=append_grow hr (z:=z) (e:=e) g8 g9 hol1 hs.src.one hbl hx hB.hn hq rfl (grownCap_ge w (rows.length+q.rows.length) cap0 e) (grownCap_le_maxLen w _ cap0 e hml) (olds:=olds) (news:=cells) (by rw [List.length_append,hol,hnl,Nat.add_mul]) hlen hwi hone
   (grow_cells hol (fun i r hi=>hB.len i r hi) holv hnl hs.len (fun i r j v c hi hj hc=>hs.rel i r j v c hi hj hc) hol1 hs.src.one)
  exact ⟨_,_,_,by rw [hcx];exact hrun,hg.1,hg.2⟩
 rcases hos with ⟨hl,ad,rfl⟩ | ⟨hnil,cap,e1,n1,hcx,h6,h7,h8,h9⟩
 ·have hrows:rows=[]:=List.length_eq_zero_iff.1 hl;by_cases hq:q.rows=[]
  ·exact empty hq hrows ad rfl
  ·have hq':q.rows.length≠0:=fun h=>hq (List.length_eq_zero_iff.1 h);refine grow ad 0 [] (by rw [hl]) (by omega) hq' ?_ (by rw [hl];simp) (by simp) (by rw [hrows];simp);rw [hl];cases ad with
   | none=>exact run_firstCells_none w.drew inf.size 0 0 0
   | some ad=>exact run_firstCells_some w.drew inf.size 0 ad 0 0 [] (by simp) (by simp)
 ·by_cases hroom:rows.length+q.rows.length≤cap
  ·obtain ⟨ccs,e',fz,hb,hfz,hsize,hcc1⟩:=hB.blk hnil;have hn1:n1=ccs.size:=by
    simp only [World.shape?,hb,Option.some.injEq,Prod.mk.injEq] at h8;exact h8.2.symm
   simp only [Nat.zero_add,Nat.zero_mul,Nat.add_zero] at hcx h9;rw [hB.hsz] at h9;have hle:(rows.length+q.rows.length)*ti.sz≤cap*ti.sz:=Nat.mul_le_mul_right _ hroom;rw [Nat.add_mul] at hle;have hin:∀ j,j<cells.length→x.base+rows.length*inf.size+j<ccs.size:=fun j hj=>by rw [hnl] at hj;rw [g4];omega
   have hrun:=run_append_room_src (P:=P) w t tx ty e inf ht g2 x.b x.base rows.length cap cy q.rows.length cells hsrc hroom (fun j hj=>by
     simp only [World.cell?,hb];simp;exact hin j hj) (fun j hj=>by
     simp only [World.frozen?,hb]
     have:=hfz (x.base+rows.length*inf.size+j)
     simp only [Bool.and_eq_false_iff,decide_eq_false_iff_not]
     simp only [Decidable.not_and_iff_or_not] at this
     exact this)
   have hg:=append_room hr hbl hx hB hnil h8 hroom h7 h9 hnl hs.src.one hs.len hwi hone (fun i r j v c hi hj hc=>hs.rel i r j v c hi hj hc);rw [g4] at hrun;exact ⟨_,_,_,by rw [hcx];exact hrun,hg.1,hg.2⟩
  ·have hr1:VRel w (Forb Γ m) m (.osl k i 0 rows.length rows.length) cx:=by
    refine .osl _ _ _ _ _ _ ⟨_,_,_,hcx⟩ fun y hy=>?_;rw [hx] at hy;cases hy;exact ⟨by rw [hB.hn];exact Nat.le_refl _,fun _=>⟨by omega,.inr ⟨hnil,cap,e1,n1,hcx,h6,h7,h8,h9⟩⟩⟩
   obtain ⟨olds,ho⟩:=src_ok (P:=P) hr (tx:=t) (sz:=ti.sz) (h:=s.heap) (q:=⟨(rows.drop 0).take rows.length,ks,[k],rows.length=rows.length⟩) hr1 (by
    simp only [srcV,oslRows,hbl]
    simp) rfl (fun _ _=>rfl) (.inl ⟨⟨e,ht⟩,by simp⟩)
   obtain ⟨o1,o2,o3,o4,o5,o6,_⟩:=ho;simp only [List.drop_zero,List.take_length] at o1 o2 o3 o4 o5 o6;have hcd:=o1.cellsD;rw [←g4] at hcd;simp only [Nat.zero_mul,Nat.add_zero] at hcx;rw [hcx] at hcd;exact grow _ cap olds hcx (by omega) (by omega) hcd o1.newsLen o1.one o6
end
end Go.Sx
namespace Go.Sx
open Go
section
variable {P:Program}{N:NB}{T:List (Nat×TI)}{o:Oper}{h:Nat→List Blk}{K:Kont}{ρ:Operand→V}
def MM.adopt (m:MM) (k d:Nat) (x y:MB):MM:=fun j i=>if j=d then (if i=0 then some y else none) else if j=k∧i=0 then some { x with n:=x.n+1,nil:=true } else m j i
theorem Rel.adopt [Glob] {Γ:Ctx}{m:MM}{s:ASt}{a:Act}{w:World}(hr:Rel Γ m s a w) {k d sz o l:Nat}{rows:List (List V)}{ks:Option (List Nat)}{x:MB}(hbl:(s.heap k)[0]?=some (.rows sz rows ks)) (hx:m k 0=some x)
  (hd:s.used d=false) (hol:o+l≤rows.length) :
  Rel Γ (m.adopt k d x ⟨x.b,x.base+o*x.sz,x.sz,l,x.nil⟩) ((s.at k 0 .gone).fresh d (.rows sz ((rows.drop o).take l) ks)) a w ∧
  RowsOK w (Forb Γ (m.adopt k d x ⟨x.b,x.base+o*x.sz,x.sz,l,x.nil⟩)) (m.adopt k d x ⟨x.b,x.base+o*x.sz,x.sz,l,x.nil⟩) ⟨x.b,x.base+o*x.sz,x.sz,l,x.nil⟩ sz ((rows.drop o).take l) ks ∧
  (∀ {v c},(∀ j∈V.sites v,s.used j=true)→VRel w (Forb Γ m) m v c→VRel w (Forb Γ (m.adopt k d x ⟨x.b,x.base+o*x.sz,x.sz,l,x.nil⟩)) (m.adopt k d x ⟨x.b,x.base+o*x.sz,x.sz,l,x.nil⟩) v c):=by
 generalize hy:(⟨x.b,x.base+o*x.sz,x.sz,l,x.nil⟩:MB)=y;have hyb:y.b=x.b:=by rw [←hy]
 have hyn:y.nil=x.nil:=by rw [←hy]
 obtain ⟨x2,hx2,hB⟩:=hr.heap k 0 _ hbl;rw [hx] at hx2;cases hx2;have hB:RowsOK w (Forb Γ m) m x sz rows ks:=hB;have hkd:k≠d:=fun e=>by
  have:=hr.useH k (by intro e0;rw [e0] at hbl;simp at hbl);rw [e,hd] at this;cases this
 have hlen0:0<(s.heap k).length:=by
  rcases Nat.lt_or_ge 0 (s.heap k).length with h' | h'
  ·exact h'
  ·rw [List.getElem?_eq_none h'] at hbl;cases hbl
 have hm:∀ j,s.used j=true→∀ i y',m.adopt k d x y j i=some y'→∃ z,m j i=some z∧Adv z y':=by
  intro j hj i y' hy';have hne:j≠d:=fun e=>by rw [e,hd] at hj;cases hj
  simp only [MM.adopt,hne,if_false] at hy';split at hy'
  ·rename_i hjk;obtain ⟨rfl,rfl⟩:=hjk;cases hy';exact ⟨x,hx,.inr (Nat.lt_succ_self _)⟩
  ·exact ⟨y',hy',.inl rfl⟩
 have hF:∀ b,b<w.heap.size→Own (m.adopt k d x y) b→Own m b:=by
  intro b hb ⟨j,i,z,hz,hn,hzb⟩;unfold MM.adopt at hz;split at hz
  ·split at hz
   ·cases hz;exact ⟨k,0,x,hx,by rw [←hyn];exact hn,by rw [←hyb];exact hzb⟩
   ·cases hz
  ·split at hz
   ·cases hz;cases hn
   ·exact ⟨j,i,z,hz,hn,hzb⟩
 have hdd:∀ b,b<w.heap.size→¬ Forb Γ m b→w.heap[b]?=w.heap[b]?∧¬ Forb Γ (m.adopt k d x y) b:=fun b hb hn=>⟨rfl,fun hf=>hn (hf.imp id (hF b hb))⟩
 have carry:∀ {v c},(∀ j∈V.sites v,s.used j=true)→VRel w (Forb Γ m) m v c→VRel w (Forb Γ (m.adopt k d x y)) (m.adopt k d x y) v c:=fun hU hv=>hv.on (U:=fun j=>s.used j=true) hdd (Nat.le_refl _) (fun _ _ _ h=>h) hm hU;have hget:∀ (i:Nat) (r:List V),((rows.drop o).take l)[i]?=some r→rows[o+i]?=some r∧i<l:=by
  intro i r hi;rw [List.getElem?_take] at hi;split at hi
  ·rename_i h;rw [List.getElem?_drop] at hi;exact ⟨hi,h⟩
  ·cases hi
 have hsites:=rows_one hB;have hused:=ksOf_used (hr.useB k 0 _ hbl);have hRows:RowsOK w (Forb Γ (m.adopt k d x y)) (m.adopt k d x y) y sz ((rows.drop o).take l) ks:=by
  obtain ⟨b1,b2,b3,b4,b5,b6⟩:=hB;refine ⟨by rw [←hy];exact b1,by rw [←hy];simp;omega,fun i r hi=>b3 _ r (hget i r hi).1,fun hn=>?_,fun hn=>?_,fun i r j v hi hj=>?_⟩
  ·rw [b4 (by rw [←hyn];exact hn)];simp
  ·obtain ⟨cs,e,fz,f1,f2,f3,f4⟩:=b5 (by rw [←hyn];exact hn);refine ⟨cs,e,fz,by rw [hyb];exact f1,f2,?_,f4⟩;rw [←hy];have:(o+l)*sz≤rows.length*sz:=Nat.mul_le_mul_right _ hol;rw [Nat.add_mul] at this;simp only [List.length_take,List.length_drop,b1];rw [show min l (rows.length-o)=l by omega];omega
  ·obtain ⟨h1,h2⟩:=hget i r hi;obtain ⟨g1,g2,c,g3,g4,g5⟩:=b6 _ r j v h1 hj;refine ⟨g1,g2,c,?_,g4,carry (fun q hq=>hused q ((hsites _ r j v h1 hj).2 q hq)) g5⟩;rw [←hy];simp only [b1];rw [Nat.add_mul] at g3;rw [show x.base+o*sz+i*sz+j=x.base+(o*sz+i*sz)+j by omega];exact g3
 refine ⟨?_,hRows,carry⟩;have hset:∀ (j i:Nat) blk,(((s.at k 0 .gone).fresh d (.rows sz ((rows.drop o).take l) ks)).heap j)[i]?=some blk→(j=d∧i=0∧blk=.rows sz ((rows.drop o).take l) ks)∨(j≠d∧j=k∧i=0∧blk=.gone)∨(j≠d∧¬ (j=k∧i=0)∧(s.heap j)[i]?=some blk):=by
  intro j i blk hb;simp only [ASt.fresh,ASt.at] at hb;by_cases hj:j=d
  ·subst hj;simp only [if_true] at hb;cases i with
   | zero=>simp at hb;exact .inl ⟨rfl,rfl,hb.symm⟩
   | succ i=>simp at hb
  ·simp only [hj,if_false] at hb;by_cases hjk:j=k
   ·subst hjk;simp only [if_true] at hb;cases i with
    | zero=>simp [hlen0] at hb;exact .inr (.inl ⟨hj,rfl,rfl,hb.symm⟩)
    | succ i=>simp at hb;exact .inr (.inr ⟨hj,by simp,hb⟩)
   ·simp only [hjk,if_false] at hb;exact .inr (.inr ⟨hj,fun e=>hjk e.1,hb⟩)
 refine hr.change (fun _ _ _=>rfl) (Nat.le_refl _) (fun _ _ _ h=>h) rfl ⟨rfl,fun _=>Nat.le_refl _⟩ rfl hm hF rfl (fun j hj=>?_) (fun j i=>?_) (fun j i blk' hb=>?_) (fun j i z j' i' z' hz hz' hn hn' hzz=>?_) (fun j i z hz hn=>?_) (fun j hj i z hz=>?_) (fun j hj=>?_) (fun j i blk' hb=>?_)
 ·simp only [ASt.fresh,ASt.at];split
  ·rfl
  ·exact hj
 ·simp only [MM.adopt,ASt.fresh,ASt.at];by_cases hj:j=d
  ·simp only [hj,if_true];by_cases hi:i=0<;>simp [hi]
  ·simp only [hj,if_false];by_cases hjk:j=k
   ·subst hjk;by_cases hi:i=0
    ·simp [hi,hlen0]
    ·simp only [hi,and_false,if_false,if_true,List.length_set];exact hr.dom j i
   ·simp only [hjk,false_and,if_false];exact hr.dom j i
 ·rcases hset j i blk' hb with ⟨rfl,rfl,rfl⟩ | ⟨h1,rfl,rfl,rfl⟩ | ⟨h1,h2,h3⟩
  ·exact ⟨y,by simp [MM.adopt],.inr hRows⟩
  ·exact ⟨{ x with n:=x.n+1,nil:=true },by simp [MM.adopt,h1],.inr trivial⟩
  ·obtain ⟨z,hz,_⟩:=hr.heap j i blk' h3;refine ⟨z,?_,.inl ⟨h3,hz,fun _=>rfl⟩⟩;simp only [MM.adopt,h1,if_false,h2];exact hz
 ·unfold MM.adopt at hz hz';by_cases hj:j=d<;>by_cases hj':j'=d
  ·simp only [hj,hj',if_true] at hz hz' ⊢;split at hz<;>split at hz'<;>first | (cases hz;done) | (cases hz';done) | exact ⟨trivial,by omega⟩
  ·simp only [hj,if_true] at hz;simp only [hj',if_false] at hz';split at hz
   ·cases hz;split at hz'
    ·cases hz';cases hn'
    ·rename_i hne;exact absurd (hr.inj j' i' z' k 0 x hz' hx hn' (by rw [←hyn];exact hn) (by rw [←hyb];exact hzz.symm)) hne
   ·cases hz
  ·simp only [hj',if_true] at hz';simp only [hj,if_false] at hz;split at hz'
   ·cases hz';split at hz
    ·cases hz;cases hn
    ·rename_i hne;exact absurd (hr.inj j i z k 0 x hz hx hn (by rw [←hyn];exact hn') (by rw [←hyb];exact hzz)) hne
   ·cases hz'
  ·simp only [hj,hj',if_false] at hz hz';split at hz
   ·cases hz;cases hn
   ·split at hz'
    ·cases hz';cases hn'
    ·exact hr.inj j i z j' i' z' hz hz' hn hn' hzz
 ·unfold MM.adopt at hz;split at hz
  ·split at hz
   ·cases hz;rw [hyb];exact hr.fr k 0 x hx (by rw [←hyn];exact hn)
   ·cases hz
  ·split at hz
   ·cases hz;cases hn
   ·exact hr.fr j i z hz hn
 ·have hne:j≠d:=fun e=>by have:=hr.useK j hj;rw [e,hd] at this;cases this
  obtain ⟨z0,hz0,ha⟩:=hm j (hr.useK j hj) i z hz;obtain ⟨y0,h1,h2⟩:=hr.keep j hj i z0 hz0;exact ⟨y0,h1,h2.trans ha⟩
 ·simp only [ASt.fresh] at hj ⊢;split
  ·rfl
  ·rename_i hne;simp only [hne,if_false,ASt.at] at hj ⊢;refine hr.useH j fun e=>hj ?_;split<;>simp [e]
 ·have hu:∀ j,s.used j=true→((s.at k 0 .gone).fresh d (.rows sz ((rows.drop o).take l) ks)).used j=true:=fun j hj=>by
   simp only [ASt.fresh,ASt.at];split
   ·rfl
   ·exact hj
  rcases hset j i blk' hb with ⟨rfl,rfl,rfl⟩ | ⟨h1,rfl,rfl,rfl⟩ | ⟨h1,h2,h3⟩
  ·cases ks with
   | none=>exact fun i r j v hi hj q hq=>hu q (hused q ((hsites _ r j v (hget i r hi).1 hj).2 q hq))
   | some L=>exact fun q hq=>hu q (hused q hq)
  ·trivial
  ·exact Blk.within_mono hu (hr.useB j i blk' h3)
theorem fresh_at (s:ASt) (d:Nat) (b b':Blk):(s.fresh d b).at d 0 b'=s.fresh d b':=by
 simp only [ASt.fresh,ASt.at,ASt.mk.injEq,true_and,and_true];funext j;by_cases hj:j=d<;>simp [hj]
theorem joinKs_nil (ks:Option (List Nat)) (rows:List (List V)):joinKs none [] ks rows=ks:=by
 cases ks with
 | none=>rfl
 | some l=>simp [joinKs,ksOf,rowsSites]
theorem OslOK.shift {w:World}{x:MB}{o l:Nat}{c:Value}(h:OslOK w x o l c):OslOK w ⟨x.b,x.base+o*x.sz,x.sz,l,x.nil⟩ 0 l c:=by
 rcases h with h | ⟨h0,cap,e,n,h1,h2,h3,h4,h5⟩
 ·exact .inl h
 ·refine .inr ⟨h0,cap,e,n,?_,h2,h3,h4,?_⟩
  ·simpa using h1
  ·simp only [Nat.zero_add];rw [Nat.add_mul] at h5;omega
end
end Go.Sx
namespace Go.Sx
open Go
section
variable {P:Program}{N:NB}{T:List (Nat×TI)}{o:Oper}{h:Nat→List Blk}{K:Kont}{ρ:Operand→V}
theorem append_full [Glob] {Γ:Ctx}{m:MM}{s:ASt}{a:Act}{w:World}(hr:Rel Γ m s a w) {e t tx ty:Nat}{ti:TI}(hT:TOK P e ti) (ht:P.underlying t=some (.slice e)) {rows:List (List V)}{d:Nat}(hd:s.used d=false) {cx cy:Value}{q:SrcV}{cells:List Value}
  (hrs:rowsSz rows ti.sz) (hvx:VRel w (Forb Γ m) m (.sl rows true) cx) (hs:SrcOK P tx ti.sz cy w (Forb Γ m) m s.used q cells) (hq:q.rows=[]→rows=[])
  (hfit:fitsV (rows.length+q.rows.length) ti.bytes) :
  ∃ c w' m',(Builtin.append_ #[t,tx] ty #[cx,cy]).run P w=.ok c w'∧Rel Γ m' (s.fresh d (.rows ti.sz (rows++q.rows) (joinKs (some []) rows q.ks q.rows))) a w' ∧
   VRel w' (Forb Γ m') m' (.osl d 0 0 (rows.length+q.rows.length) (rows.length+q.rows.length)) c:=by
 by_cases hrz:rows=[]
 ·subst hrz;obtain ⟨base,hcx⟩:∃ base,cx=.slice base 0 0:=by
   cases hvx with
   | nilsl full ad=>exact ⟨ad,rfl⟩
   | sl rows full sz b base cap c hF hl hm hf hz hd h1 ho1 hc hv=>have:=hf rfl;exact ⟨_,by rw [this];rfl⟩
  have hf:=Rel.freshNil hr hd (sz:=ti.sz) (ks:=some []) (fun k hk=>by cases hk);have hs':SrcOK P tx ti.sz cy w (Forb Γ (MM.fresh m d ⟨0,0,ti.sz,0,true⟩)) (MM.fresh m d ⟨0,0,ti.sz,0,true⟩) (s.fresh d (.rows ti.sz [] (some []))).used q cells:=
   hs.mono (fun k hk=>by simp only [ASt.fresh];split<;>first | rfl | exact hk) (fun hU hv=>Rel.carryFresh hd (fun _ _=>rfl) (Nat.le_refl _) (fun h=>by cases h) hU hv)
  have hx2:MM.fresh m d ⟨0,0,ti.sz,0,true⟩ d 0=some ⟨0,0,ti.sz,0,true⟩:=by simp [MM.fresh]
  have hbl:((s.fresh d (.rows ti.sz [] (some []))).heap d)[0]?=some (.rows ti.sz [] (some [])):=by simp [ASt.fresh]
  obtain ⟨y2,hy2,hB⟩:=hf.1.heap d 0 _ hbl;rw [hx2] at hy2;cases hy2;obtain ⟨cc,w',m',f1,f2,f3⟩:=append_core hf.1 hT ht (tx:=tx) (ty:=ty) hbl hx2 hB (cx:=cx) (.inl ⟨rfl,base,hcx⟩) hs' (by simpa using hfit);rw [fresh_at] at f2;exact ⟨cc,w',m',f1,f2,f3⟩
 have hq:q.rows≠[]:=fun h=>hrz (hq h);obtain ⟨olds,ho⟩:=src_ok (P:=P) hr (tx:=t) (sz:=ti.sz) (h:=s.heap) (q:=⟨rows,some [],[],rowsSz rows ti.sz⟩) hvx rfl hrs (fun _ _=>rfl) (.inl ⟨⟨e,ht⟩,by simp⟩);obtain ⟨dd,inf,z,g1,g2,g3,g4,g5,g6,g7,g8,g9,g10⟩:=hT;obtain ⟨base,cap0,hcx,hcap0⟩:∃ base cap0,cx=.slice base rows.length cap0∧cap0=rows.length:=by
  cases hvx with
  | nilsl full ad=>exact ⟨ad,0,rfl,rfl⟩
  | sl rows full sz b base cap c hF hl hm hf hz hd h1 ho1 hc hv=>exact ⟨_,_,rfl,hf rfl⟩
 subst hcap0;have hq':q.rows.length≠0:=fun h=>hq (List.length_eq_zero_iff.1 h);have hsrc:=hs.src;rw [←g4] at hsrc;have hnl:cells.length=q.rows.length*ti.sz:=hs.src.newsLen;have hol:olds.length=rows.length*ti.sz:=ho.src.newsLen;have h63:((rows.length+q.rows.length:Nat):Int)≤9223372036854775807:=by have:=hfit.2;omega
 have hml:rows.length+q.rows.length≤maxLen:=by have:=hfit.2;simpa [maxLen] using this
 have hcd:=ho.src.cellsD;rw [←g4,hcx] at hcd;have hcap:rows.length<rows.length+q.rows.length:=by omega
 have hrun:=run_append_grow_src (P:=P) w t tx ty e inf z ht g2 g6 base rows.length rows.length olds hcd cy q.rows.length cells hsrc hcap h63 (by rw [g5];exact fits_next hcap hfit);have hlen:∀ (i:Nat) r,(rows++q.rows)[i]?=some r→r.length=ti.sz:=by
  intro i r hi;rw [List.getElem?_append] at hi;split at hi
  ·exact ho.len _ r hi
  ·exact hs.len _ r hi
 have hg:=append_fresh hr (d:=d) hd (z:=z) (e:=e) (rows:=rows++q.rows) (ks:=joinKs (some []) rows q.ks q.rows) g8 g9 ho.src.one hs.src.one hlen (need:=rows.length+q.rows.length) (by simp) (grownCap_ge w (rows.length+q.rows.length) rows.length e) (grownCap_le_maxLen w _ rows.length e hml) (olds:=olds) (news:=cells) (by rw [List.length_append,hol,hnl,Nat.add_mul])
  (joinKs_within (by simp [ksOf]) hs.use (fun r hr=>by simpa using hr)) (join_one (fun i r j v hi hj=>⟨ho.one i r j v hi hj,ho.ks i r j v hi hj⟩) (fun i r j v hi hj=>⟨hs.one i r j v hi hj,hs.ks i r j v hi hj⟩))
  (grow_cells hol ho.len (fun i r j v c hi hj hc=>ho.rel i r j v c hi hj hc) hnl hs.len (fun i r j v c hi hj hc=>hs.rel i r j v c hi hj hc) ho.src.one hs.src.one)
 exact ⟨_,_,_,by rw [hcx];exact hrun,hg.1,hg.2⟩
theorem append_over [Glob] {Γ:Ctx}{m:MM}{s:ASt}{a:Act}{w:World}(hr:Rel Γ m s a w) {e t tx ty:Nat}{ti:TI}(hT:TOK P e ti) (ht:P.underlying t=some (.slice e)) {rows:List (List V)}{d:Nat}(hd:s.used d=false) {cx cy:Value}{q:SrcV}{cells:List Value}
  {k i o l n cap:Nat}{ks:Option (List Nat)}(hh:(s.heap k)[i]?=some (.rows ti.sz rows ks)) (hn:n=rows.length) (hvx:VRel w (Forb Γ m) m (.oslc k i o l n cap) cx) (hs:SrcOK P tx ti.sz cy w (Forb Γ m) m s.used q cells) (hcap:cap<l+q.rows.length)
  (hfit:fitsV (l+q.rows.length) ti.bytes) :
  ∃ c w' m',(Builtin.append_ #[t,tx] ty #[cx,cy]).run P w=.ok c w'∧Rel Γ m' (s.fresh d (.rows ti.sz ((rows.drop o).take l++q.rows) (joinKs ks ((rows.drop o).take l) q.ks q.rows))) a w' ∧
   VRel w' (Forb Γ m') m' (.osl d 0 0 (l+q.rows.length) (l+q.rows.length)) c:=by
 obtain ⟨y,hy,hB,hle,hos⟩:=hr.oslc_inv hvx hh hn;obtain ⟨base,hcx,hlc,hcm⟩:=hos.len;have hvo:VRel w (Forb Γ m) m (.osl k i o l n) cx:=by
  refine .osl _ _ _ _ _ _ ⟨_,_,_,hcx⟩ fun q hq=>?_;rw [hy] at hq;cases hq;refine ⟨by rw [hB.hn,hn];exact Nat.le_refl _,fun _=>⟨by omega,?_⟩⟩;rcases hos with ⟨h1,h2,h3⟩ | ⟨h1,e1,n1,h2,h3⟩
  ·exact .inl ⟨h1,h3⟩
  ·exact .inr ⟨h1,cap,e1,n1,h2,h3⟩
 obtain ⟨olds,ho⟩:=src_ok (P:=P) hr (tx:=t) (sz:=ti.sz) (h:=s.heap) (q:=⟨(rows.drop o).take l,ks,[k],n=rows.length⟩) hvo (by simp [srcV,oslRows,hh,Nat.beq_refl]) hn (fun _ _=>rfl) (.inl ⟨⟨e,ht⟩,by simp⟩);have hrl:((rows.drop o).take l).length=l:=by simp;omega
 generalize hR:(rows.drop o).take l=R at *;obtain ⟨dd,inf,z,g1,g2,g3,g4,g5,g6,g7,g8,g9,g10⟩:=hT;have hsrc:=hs.src;rw [←g4] at hsrc;have hnl:cells.length=q.rows.length*ti.sz:=hs.src.newsLen;have hol:olds.length=R.length*ti.sz:=ho.src.newsLen;have h63:((l+q.rows.length:Nat):Int)≤9223372036854775807:=by have:=hfit.2;omega
 have hml:l+q.rows.length≤maxLen:=by have:=hfit.2;simpa [maxLen] using this
 have hcd:=ho.src.cellsD;rw [←g4,hcx] at hcd;simp only [hrl] at hcd;have hrun:=run_append_grow_src (P:=P) w t tx ty e inf z ht g2 g6 base l cap olds hcd cy q.rows.length cells hsrc hcap h63 (by rw [g5];exact fits_next hcap hfit);have hlen:∀ (i:Nat) r,(R++q.rows)[i]?=some r→r.length=ti.sz:=by
  intro i r hi;rw [List.getElem?_append] at hi;split at hi
  ·exact ho.len _ r hi
  ·exact hs.len _ r hi
 have hg:=append_fresh hr (d:=d) hd (z:=z) (e:=e) (rows:=R++q.rows) (ks:=joinKs ks R q.ks q.rows) g8 g9 ho.src.one hs.src.one hlen (need:=l+q.rows.length) (by simp [hrl]) (grownCap_ge w (l+q.rows.length) cap e) (grownCap_le_maxLen w _ cap e hml) (olds:=olds) (news:=cells) (by rw [List.length_append,hol,hnl,hrl,Nat.add_mul])
  (joinKs_within ho.use hs.use (fun r hr=>by simpa using hr)) (join_one (fun i r j v hi hj=>⟨ho.one i r j v hi hj,ho.ks i r j v hi hj⟩) (fun i r j v hi hj=>⟨hs.one i r j v hi hj,hs.ks i r j v hi hj⟩))
  (grow_cells hol ho.len (fun i r j v c hi hj hc=>ho.rel i r j v c hi hj hc) hnl hs.len (fun i r j v c hi hj hc=>hs.rel i r j v c hi hj hc) ho.src.one hs.src.one)
 exact ⟨_,_,_,by rw [hcx];exact hrun,hg.1,hg.2⟩
theorem runAppend_ok [Glob] (hT:TableOK P T) {dst:Option Nat}{c:Call}{x y:Operand}{t tx:Nat}(hop:o.op=.call c) (hc1:c.callee=.builtin .append) (hc2:c.args=#[x,y]) (hc3:c.argTypes=#[t,tx])
  (hk:runAppend T h dst t tx (ρ x) (ρ y) K):∃ v us rd,GoodV P N o ρ h v us rd∧K v us rd:=by
 have hmx:x∈o.op.operands:=by simp [hop,Op.operands,Call.operands,hc1,hc2]
 have hmy:y∈o.op.operands:=by simp [hop,Op.operands,Call.operands,hc1,hc2]
 unfold runAppend at hk;split at hk
 ·rename_i e sz0 b0 z0 tix d hlt hltx;have ht1:=hT _ _ hlt;obtain ⟨dt,it,zt,p1,p2,p3,p4⟩:=ht1;have:=tkOf_sl p3;subst this;split at hk
  ·exact hk.elim
  ·rename_i ti hte;have hTe:=hT _ _ hte;split at hk
   ·exact hk.elim
   ·rename_i q hq;have hsrc:srcV h ti.sz (ρ y)=some q∧((∃ e',P.underlying tx=some (.slice e'))∧(∀ l,ρ y≠.str l)∨P.underlying tx=some .string∧∃ l,ρ y=.str l):=by
     obtain ⟨dx,ix,zx,q1,q2,q3,q4⟩:=hT _ _ hltx;split at hq
     ·cases hq
     ·rename_i e' htk hne;rw [htk] at q3;have:=tkOf_sl q3;subst this;exact ⟨hq,.inl ⟨⟨_,q1⟩,fun l hl=>hne l hl⟩⟩
     ·rename_i l htk hyl;rw [htk] at q3;have:=tkOf_str q3;subst this;rw [hyl] at hq ⊢;exact ⟨hq,.inr ⟨q1,l,rfl⟩⟩
     ·cases hq
    clear hq;obtain ⟨hq,hkind⟩:=hsrc;split at hk
    ·rename_i hx;obtain ⟨hneed,hfit,hk⟩:=hk;refine ⟨_,_,_,fun Γ m s a w hN hr ho hg hu=>?_,hk⟩;have hd:s.used d=false:=hu d (by simp [Up.made]);have hvx:=hr.evalO x;have hvy:=hr.evalO y;rw [ho x hmx,hx] at hvx;rw [ho y hmy] at hvy;obtain ⟨cells,hs⟩:=src_ok (P:=P) hr (tx:=tx) hvy hq hneed hg hkind;have hcx:a.eval x=.slice none 0 0:=by
      generalize a.eval x=cx at hvx;cases hvx;rfl
     have hf:=Rel.freshNil hr hd (sz:=ti.sz) (ks:=none) (fun i r j v hi=>by simp at hi);have hs':SrcOK P tx ti.sz (a.eval y) w (Forb Γ (MM.fresh m d ⟨0,0,ti.sz,0,true⟩)) (MM.fresh m d ⟨0,0,ti.sz,0,true⟩) (s.fresh d (.rows ti.sz [] none)).used q cells:=
      hs.mono (fun k hk=>by simp only [ASt.fresh];split<;>first | rfl | exact hk) (fun hU hv=>Rel.carryFresh hd (fun _ _=>rfl) (Nat.le_refl _) (fun h=>by cases h) hU hv)
     have hx2:MM.fresh m d ⟨0,0,ti.sz,0,true⟩ d 0=some ⟨0,0,ti.sz,0,true⟩:=by simp [MM.fresh]
     have hbl:((s.fresh d (.rows ti.sz [] none)).heap d)[0]?=some (.rows ti.sz [] none):=by simp [ASt.fresh]
     obtain ⟨y2,hy2,hB⟩:=hf.1.heap d 0 _ hbl;rw [hx2] at hy2;cases hy2;obtain ⟨cc,w',m',f1,f2,f3⟩:=append_core hf.1 hTe p1 (tx:=tx) (ty:=o.type) hbl hx2 hB (.inl ⟨rfl,_,rfl⟩) hs' (by simpa using hfit);refine ⟨_,cc,w',m',exec_append hop hc1 hc2 hc3 (by rw [hcx];exact f1),.inl rfl,?_,?_,fun k hk=>?_⟩
     ·rw [fresh_at,joinKs_nil,List.nil_append] at f2;exact f2
     ·simpa using f3
     ·simp [V.sites] at hk;subst hk;simp [ASt.ups,ASt.up,ASt.fresh]
    ·rename_i rows hx;obtain ⟨⟨hneed,hrs,hne⟩,hfit,hk⟩:=hk;refine ⟨_,_,_,fun Γ m s a w hN hr ho hg hu=>?_,hk⟩;have hd:s.used d=false:=hu d (by simp [Up.made]);have hvx:=hr.evalO x;have hvy:=hr.evalO y;rw [ho x hmx,hx] at hvx;rw [ho y hmy] at hvy;obtain ⟨cells,hs⟩:=src_ok (P:=P) hr (tx:=tx) hvy hq hneed hg hkind;obtain ⟨cc,w',m',f1,f2,f3⟩:=append_full hr hTe p1 (tx:=tx) (ty:=o.type) hd hrs hvx hs hne hfit;exact ⟨_,cc,w',m',exec_append hop hc1 hc2 hc3 f1,.inl rfl,f2,f3,fun k hk=>by simp [V.sites] at hk;subst hk;simp [ASt.ups,ASt.up,ASt.fresh]⟩
    ·rename_i k i o' l n hx;split at hk
     ·rename_i sz rows ks hh;split at hk
      ·exact hk.elim
      ·rename_i hsz;have hsz:=Nat.eq_of_beq_eq_true hsz;subst hsz;obtain ⟨⟨hneed,hn⟩,hfit,hk⟩:=hk;rcases hk with ⟨rfl,hln,hk⟩ | ⟨rfl,hk⟩
       ·refine ⟨_,_,_,fun Γ m s a w hN hr ho hg hu=>?_,hk⟩;have hvx:=hr.evalO x;have hvy:=hr.evalO y;rw [ho x hmx,hx] at hvx;rw [ho y hmy] at hvy;obtain ⟨cells,hs⟩:=src_ok (P:=P) hr (tx:=tx) hvy hq hneed (fun k hk=>hg k (List.mem_cons_of_mem _ hk)) hkind;have hh':(s.heap k)[i]?=some (.rows ti.sz rows ks):=by rw [hg k (by simp)];exact oslRows_some hh
        obtain ⟨y2,hy2,hB,hle,hos⟩:=hr.osl_inv hvx hh' hn;have hlr:l=rows.length:=by omega
        rw [hlr] at hos hfit;obtain ⟨cc,w',m',f1,f2,f3⟩:=append_core hr hTe p1 (tx:=tx) (ty:=o.type) hh' hy2 hB hos hs hfit;refine ⟨_,cc,w',m',exec_append hop hc1 hc2 hc3 f1,.inl rfl,f2,by rw [hlr];exact f3,fun j hj=>?_⟩;simp [V.sites] at hj;subst hj;exact hr.useH _ (by intro e0;rw [e0] at hh';simp at hh')
       ·refine ⟨_,_,_,fun Γ m s a w hN hr ho hg hu=>?_,hk⟩;have hd:s.used d=false:=hu d (by simp [Up.made]);have hvx:=hr.evalO x;have hvy:=hr.evalO y;rw [ho x hmx,hx] at hvx;rw [ho y hmy] at hvy;obtain ⟨cells,hs⟩:=src_ok (P:=P) hr (tx:=tx) hvy hq hneed (fun k hk=>hg k (List.mem_cons_of_mem _ hk)) hkind;have hh':(s.heap k)[0]?=some (.rows ti.sz rows ks):=by rw [hg k (by simp)];exact oslRows_some hh
        obtain ⟨y2,hy2,hB,hle,hos⟩:=hr.osl_inv hvx hh' hn;obtain ⟨a1,a2,a3⟩:=Rel.adopt hr hh' hy2 hd hle;have hs':=hs.mono (U':=((s.at k 0 .gone).fresh d (.rows ti.sz ((rows.drop o').take l) ks)).used) (fun k hk=>by simp only [ASt.fresh,ASt.at];split<;>first | rfl | exact hk) a3;have hlr:((rows.drop o').take l).length=l:=by simp;omega
        have hos':=hos.shift;obtain ⟨cc,w',m',f1,f2,f3⟩:=append_core a1 hTe p1 (tx:=tx) (ty:=o.type) (k:=d) (i:=0) (rows:=(rows.drop o').take l) (ks:=ks) (by simp [ASt.fresh]) (by simp [MM.adopt]) a2 (by rw [hlr];exact hos') hs' (by rw [hlr];exact hfit);rw [fresh_at] at f2;rw [hlr] at f3;refine ⟨_,cc,w',m',exec_append hop hc1 hc2 hc3 f1,.inl rfl,f2,f3,fun j hj=>?_⟩;simp [V.sites] at hj;subst hj;simp [ASt.ups,ASt.up,ASt.fresh]
     ·exact hk.elim
    ·rename_i k i o' l n cap hx;split at hk
     ·rename_i sz rows ks hh;split at hk
      ·exact hk.elim
      ·rename_i hsz;have hsz:=Nat.eq_of_beq_eq_true hsz;subst hsz;obtain ⟨⟨hneed,hn,hcap⟩,hfit,hk⟩:=hk;refine ⟨_,_,_,fun Γ m s a w hN hr ho hg hu=>?_,hk⟩;have hd:s.used d=false:=hu d (by simp [Up.made]);have hvx:=hr.evalO x;have hvy:=hr.evalO y;rw [ho x hmx,hx] at hvx;rw [ho y hmy] at hvy;obtain ⟨cells,hs⟩:=src_ok (P:=P) hr (tx:=tx) hvy hq hneed (fun k hk=>hg k (List.mem_cons_of_mem _ hk)) hkind;have hh':(s.heap k)[i]?=some (.rows ti.sz rows ks):=by rw [hg k (by simp)];exact oslRows_some hh
       obtain ⟨cc,w',m',f1,f2,f3⟩:=append_over hr hTe p1 (tx:=tx) (ty:=o.type) hd hh' hn hvx hs hcap hfit;refine ⟨_,cc,w',m',exec_append hop hc1 hc2 hc3 f1,.inl rfl,f2,f3,fun j hj=>?_⟩;simp [V.sites] at hj;subst hj;simp [ASt.ups,ASt.up,ASt.fresh]
     ·exact hk.elim
    ·exact hk.elim
 ·exact hk.elim
end
end Go.Sx
namespace Go.Sx
open Go
section
variable {P:Program}{N:NB}{T:List (Nat×TI)}{o:Oper}{h:Nat→List Blk}{K:Kont}{ρ:Operand→V}
end
end Go.Sx
namespace Go.Sx
open Go
section
variable {P:Program}{N:NB}{T:List (Nat×TI)}{o:Oper}{h:Nat→List Blk}{K:Kont}{ρ:Operand→V}
def runRange (T:List (Nat×TI)) (h:Nat→List Blk) (dst:Option Nat) (t:Nat) (x:V) (K:Kont):Prop:=
 match look T t,x,dst with
 | some ⟨.map _ _,_,_,_⟩,.omap s i,some d=>blkAt (h s) i fun b=>(match b with
  | .map es clock ks=>K (.bp d 0) [.fresh d (.iter s i clock [])] [s]
  | _=>False)
 | _,_,_=>False
theorem runRange_ok [Glob] (hT:TableOK P T) {t:Nat}{x:Operand}(hop:o.op=.range t x) (hk:runRange T h o.dst t (ρ x) K):∃ v us rd,GoodV P N o ρ h v us rd∧K v us rd:=by
 unfold runRange at hk;split at hk
 ·rename_i kt et s0 b0 z0 s1 i1 d hti hx hdst;obtain ⟨b,hb,hk⟩:=blkAt_get hk;split at hk
  ·rename_i es clock ks;obtain ⟨d0,i0,zz,g1,g2,g3,_⟩:=hT _ _ hti;have:=tkOf_map g3;subst this;refine ⟨_,_,_,fun Γ m s a w hN hr ho hg hmade=>?_,hk⟩;have hd:s.used d=false:=hmade d (by simp [Up.made]);have hvx:=hr.evalO x;rw [ho x (by simp [hop,Op.operands]),hx] at hvx;have hh:(s.heap s1)[i1]?=some (.map es clock ks):=by rw [hg s1 (by simp)];exact hb
   obtain ⟨y,hy,hc,hB⟩:=hr.omap_inv hvx hh;obtain ⟨h3,h4,ents,h5,h6,h7,h8,h9⟩:=hB;have hus:s.used s1=true:=hr.useH s1 (by intro e;rw [e] at hh;simp at hh);have hsd:s1≠d:=fun e=>by rw [e,hd] at hus;cases hus
   have hheap:(w.alloc (.mapIter (some y.b) clock #[] clock)).heap=w.heap.push (.mapIter (some y.b) clock #[] clock):=rfl;have hrel:=hr.fresh d hd ⟨w.heap.size,0,0,1,false⟩ (.iter s1 i1 clock []) (w':=w.alloc (.mapIter (some y.b) clock #[] clock)) (fun b hb=>by rw [hheap,Array.getElem?_push,if_neg (by omega)]) (by rw [hheap];simp) rfl ⟨rfl,fun _=>Nat.le_refl _⟩ rfl (fun _=>⟨Nat.le_refl _,by rw [hheap];simp⟩) hus
    ⟨rfl,rfl,rfl,fun y' hy' h0=>by
     simp only [MM.fresh,hsd,if_false] at hy'
     rw [hy] at hy';cases hy'
     rw [hheap];simp⟩
   refine ⟨_,.pointer (some ⟨w.heap.size,0,none⟩),_,_,?_,.inl rfl,hrel,fresh_bp,fun k hk=>?_⟩
   ·simp only [execOp,hop];rw [hc];have hg0:(getObj y.b).run P w=.ok (.map ents clock) w:=by simp [getObj,Sem.run,h5]
    have:(Instr.range t (.map (some y.b))).run P w=.ok (.pointer (some ⟨w.heap.size,0,none⟩)) (w.alloc (.mapIter (some y.b) clock #[] clock)):=by
     unfold Instr.range;simp [run_underlying g1,hg0,newObj,Sem.run]
    simp [this]
   ·simp [V.sites] at hk;subst hk;simp [ASt.ups,ASt.up,ASt.fresh]
  ·exact hk.elim
 ·exact hk.elim
theorem Rel.bp_blk [Glob] {Γ:Ctx}{m:MM}{s:ASt}{a:Act}{w:World}(hr:Rel Γ m s a w) {k s1 i1 clock:Nat}{seen:List Nat}{c:Value}(hv:VRel w (Forb Γ m) m (.bp k 0) c) (hh:s.heap k=[.iter s1 i1 clock seen]) :
  ∃ x,m k 0=some x∧c=.pointer (some ⟨x.b,0,none⟩)∧IterOK w m x s1 i1 clock seen:=by
 obtain ⟨x,hx,hB⟩:=hr.heap k 0 (.iter s1 i1 clock seen) (by rw [hh];rfl);have hB:IterOK w m x s1 i1 clock seen:=hB;cases hv with
 | bp _ _ c hc hv =>
  obtain ⟨h1,h2⟩:=hv x hx;obtain ⟨h3,h4⟩:=h2 hB.2.1;exact ⟨x,hx,by rw [h4,hB.2.2.1],hB⟩
def runEntry (h:Nat→List Blk) (it:V) (K:Kont):Prop:=
 match it with
 | .bp k 0=>(match h k with
  | [.iter s i clock seen]=>blkAt (h s) i fun b=>(match b with
   | .map es clock' ks=>∃ (pre:List Nat) (st j:Nat) (kk v:V),seen=pre++[st]∧es[j]?=some (st,kk,v)∧clock'=clock∧K (.tup [kk,v]) [] [k,s]
   | _=>False)
  | _=>False)
 | _=>False
theorem born_nodup {ents:Array MapEntry}(hs:∀ (i j:Nat) e f,ents[i]?=some e→ents[j]?=some f→i<j→e.born<f.born):(ents.toList.map (·.born)).Nodup:=by
 rw [List.nodup_iff_pairwise_ne,List.pairwise_map,List.pairwise_iff_getElem];intro i j hi hj hij;have:=hs i j ents.toList[i] ents.toList[j] (by simp at hi ⊢) (by simp at hj ⊢) hij;omega
theorem runEntry_ok [Glob] {it:Operand}(hop:o.op=.entry it) (hk:runEntry h (ρ it) K):∃ v us rd,GoodV P N o ρ h v us rd∧K v us rd:=by
 unfold runEntry at hk;split at hk
 ·rename_i k hit;split at hk
  ·rename_i s1 i1 clock seen hkk;obtain ⟨b,hb,hk⟩:=blkAt_get hk;split at hk
   ·rename_i es clock' ks;obtain ⟨pre,st,j,kk,v,hseen,hj,hcl,hk2⟩:=hk;subst hcl;refine ⟨_,_,_,GoodV.still fun Γ m s a w hr ho hg=>?_,hk2⟩;have hvi:=hr.evalO it;rw [ho it (by simp [hop,Op.operands]),hit] at hvi;obtain ⟨x,hx,hc,hI⟩:=hr.bp_blk hvi (by rw [hg k (by simp)];exact hkk);obtain ⟨i1',i2,i3,i4⟩:=hI;have hh:(s.heap s1)[i1]?=some (.map es clock' ks):=by rw [hg s1 (by simp)];exact hb
    obtain ⟨y,hy,hB⟩:=hr.heap s1 i1 _ hh;obtain ⟨h3,h4,ents,h5,h6,h7,h8,h9⟩:=hB;obtain ⟨e,q1,q2,q3,q4,q5,q6⟩:=h9 j st kk v hj;have hit2:=i4 y hy h4;refine ⟨.tuple #[e.key,e.val],?_,?_,fun q hq=>?_⟩
    ·simp only [execOp,hop];rw [hc];have:=run_entry_at (P:=P) w x.b y.b clock' pre.toArray ents clock' e (by rw [hit2,hseen,←q2];simp) h5 (by
      have:=Array.mem_of_getElem? q1
      simpa using this) (born_nodup h8)
     simp [this]
    ·refine .tup _ [e.key,e.val] rfl fun j u c hj hx=>?_
     match j with
     | 0=>simp at hj hx;subst hj hx;exact q5
     | 1=>simp at hj hx;subst hj hx;exact q6
     | j+2=>simp at hj
    ·have hq:q∈v.sites:=by simpa [V.sites,sitesL,q3] using hq
     have hwi:=hr.useB s1 i1 _ hh;cases ks with
     | none=>exact hwi j st kk v hj q hq
     | some l=>exact hwi q (q4 l rfl q hq)
   ·exact hk.elim
  ·exact hk.elim
 ·exact hk.elim
end
end Go.Sx
namespace Go.Sx
open Go
section
variable {P:Program}{N:NB}{T:List (Nat×TI)}{o:Oper}{h:Nat→List Blk}{K:Kont}{ρ:Operand→V}
def runMinMax (mx:Bool) (x y:V) (K:Kont):Prop:=
 match x,y with
 | .int k a,.int _ b=>K (.int k (match mx with | true=>max a b | false=>min a b)) [] []
 | _,_=>False
theorem runMinMax_ok [Glob] {mx:Bool}{c:Call}{x y:Operand}(hop:o.op=.call c) (hc1:c.callee=.builtin (match mx with | true=>.max | false=>.min)) (hc2:c.args=#[x,y])
  (hk:runMinMax mx (ρ x) (ρ y) K):∃ v us rd,GoodV P N o ρ h v us rd∧K v us rd:=by
 unfold runMinMax at hk;split at hk
 ·rename_i k a k2 b hx hy;refine ⟨_,_,_,GoodV.still fun Γ m s a' w hr ho hg=>?_,hk⟩;have hvx:=hr.evalO x;have hvy:=hr.evalO y;rw [ho x (by simp [hop,Op.operands,Call.operands,hc2]),hx] at hvx;rw [ho y (by simp [hop,Op.operands,Call.operands,hc2]),hy] at hvy;have h1:a'.eval x=.int k a:=by generalize a'.eval x=cx at hvx;cases hvx;rfl
  have h2:a'.eval y=.int k2 b:=by generalize a'.eval y=cx at hvy;cases hvy;rfl
  cases mx with
  | true =>
   refine ⟨.int k (max a b),?_,.int _ _,by simp [V.sites]⟩;simp [execOp,hop,resolve,hc1,hc2,invoke,builtin,h1,h2,Lib.run_max_ints]
  | false =>
   refine ⟨.int k (min a b),?_,.int _ _,by simp [V.sites]⟩;simp [execOp,hop,resolve,hc1,hc2,invoke,builtin,h1,h2,Lib.run_min_ints]
 ·exact hk.elim
end
end Go.Sx
namespace Go.Sx
open Go
section
variable {P:Program}{N:NB}{T:List (Nat×TI)}{o:Oper}{h:Nat→List Blk}{K:Kont}{ρ:Operand→V}
end
end Go.Sx
namespace Go.Sx
open Go
section
variable {P:Program}{N:NB}{T:List (Nat×TI)}{o:Oper}{h:Nat→List Blk}{K:Kont}{ρ:Operand→V}
def nilCmp (op:BinOp) (b:Bool):Option Bool:=
 match op with
 | .eql=>some b
 | .neq=>some (match b with | true=>false | false=>true)
 | _=>none
def nilIs:V→Option Bool
 | .nils=>some true
 | .sle=>some false
 | .sl (_::_) _=>some false
 | _=>none
def runNilCmp (T:List (Nat×TI)) (op:BinOp) (t:Nat) (x y:V) (K:Kont):Prop:=
 match look T t,y with
 | some ⟨.sl _,_,_,_⟩,.nils =>
  (match nilIs x with
  | some b=>(match nilCmp op b with | some r=>K (.bool r) [] [] | none=>False)
  | none=>False)
 | _,_=>False
theorem run_nilCmp {t e:Nat}{op:BinOp}(ht:P.underlying t=some (.slice e)) (a:Option Addr) (l c:Nat) {r:Bool}(hr:nilCmp op a.isNone=some r) (w:World) :
  (binOp op t (.slice a l c) (.slice none 0 0)).run P w=.ok (.bool r) w:=by
 have he:(Op.equal t (.slice a l c) (.slice none 0 0)).run P w=.ok a.isNone w:=by
  obtain ⟨d,hd⟩:∃ d,Op.maxDepth=d+1:=⟨_,rfl⟩
  unfold Op.equal;rw [hd];cases a<;>simp [Op.equalIn,run_underlying ht]
 cases op<;>simp only [nilCmp] at hr<;>cases hr
 ·simp [binOp,he]
 ·simp only [binOp,Sem.run_bind,he,Result.andThen_ok];cases a<;>rfl
theorem nilIs_ok {w:World}{F:Nat→Prop}{m:MM}{v:V}{c:Value}{b:Bool}(hv:VRel w F m v c) (hb:nilIs v=some b):∃ ad l k,c=.slice ad l k∧ad.isNone=b:=by
 cases hv with
 | nils=>simp [nilIs] at hb;subst hb;exact ⟨_,_,_,rfl,rfl⟩
 | sle a cap h=>simp [nilIs] at hb;subst hb;exact ⟨_,_,_,rfl,rfl⟩
 | nilsl=>simp [nilIs] at hb
 | sl rows full sz b base cap c hF hl hm hf hz hdd h1 ho1 hc hv =>
  cases rows with
  | nil=>simp [nilIs] at hb
  | cons _ _=>simp [nilIs] at hb;subst hb;exact ⟨_,_,_,rfl,rfl⟩
 | _=>simp [nilIs] at hb
theorem runNilCmp_ok [Glob] (hT:TableOK P T) {op:BinOp}{t t':Nat}{x y:Operand}(hop:o.op=.binOp op t x y t') (hk:runNilCmp T op t (ρ x) (ρ y) K):∃ v us rd,GoodV P N o ρ h v us rd∧K v us rd:=by
 have mx:x∈o.op.operands:=by simp [hop,Op.operands]
 have my:y∈o.op.operands:=by simp [hop,Op.operands]
 unfold runNilCmp at hk;split at hk
 ·rename_i e sz b z hlt hy;obtain ⟨d,i,zz,g1,g2,g3,_⟩:=hT _ _ hlt;have:=tkOf_sl g3;subst this;split at hk
  ·rename_i b hb;split at hk
   ·rename_i r hr;refine ⟨_,_,_,GoodV.still fun Γ m s a w hrel ho hg=>?_,hk⟩;have hv:=hrel.evalO x;rw [ho x mx] at hv;obtain ⟨ad,l,c,h1,h3⟩:=nilIs_ok hv hb;have h2:a.eval y=.slice none 0 0:=by
     have hv:=hrel.evalO y;rw [ho y my,hy] at hv;generalize a.eval y=c at hv;cases hv;rfl
    have hg:(eqGuard op t x y (.slice ad l c) (.slice none 0 0)).run P w=.ok () w:=by
     unfold eqGuard;cases op<;>rfl
    refine ⟨.bool r,?_,.bool _,by simp [V.sites]⟩;simp [execOp,hop,h1,h2,hg,run_nilCmp g1 ad l c (by rw [h3];exact hr) w]
   ·exact hk.elim
  ·exact hk.elim
 ·exact hk.elim
end
end Go.Sx
namespace Go.Sx
open Go
section
variable {P:Program}{N:NB}{T:List (Nat×TI)}{o:Oper}{h:Nat→List Blk}{ρ:Operand→V}
end
end Go.Sx
namespace Go.Sx
open Go
section
variable {P:Program}{N:NB}{T:List (Nat×TI)}{o:Oper}{h:Nat→List Blk}{ρ:Operand→V}
end
end Go.Sx
namespace Go.Sx
open Go
section
variable {P:Program}{N:NB}{T:List (Nat×TI)}{o:Oper}{h:Nat→List Blk}{ρ:Operand→V}
theorem run_equal_bs {t:TypeId}{f0 f1:Field}(hu:P.underlying t=some (.struct #[f0,f1])) (hst:P.stoodInHeld t=false) (n0:(f0.name == "_")=false) (n1:(f1.name == "_")=false) (o0:f0.offset=0) (o1:f1.offset=1)
  (u0:P.underlying f0.type=some .bool) (u1:P.underlying f1.type=some .string) (n m:Bool) (a b:ByteArray) (w:World) :
  (Op.equal t (.agg #[.bool n,.string a]) (.agg #[.bool m,.string b])).run P w=.ok (decide (n=m∧a.toList=b.toList)) w:=by
 obtain ⟨d,hd⟩:∃ d,Op.maxDepth=d+2:=⟨_,rfl⟩
 unfold Op.equal;rw [hd];have n0':¬ f0.name="_":=by simpa using n0
 have n1':¬ f1.name="_":=by simpa using n1
 have p0:P.plainKey f0.type=true:=by simp [Program.plainKey,u0]
 have p1:P.plainKey f1.type=true:=by simp [Program.plainKey,u1]
 have q0:∀ (z:Bool) (s:ByteArray),(Go.part f0.type #[Value.bool z,Value.string s] 0).run P w=Result.ok (Value.bool z) w:=fun s z=>run_part_plain w p0 rfl;have q1:∀ (z:Bool) (s:ByteArray),(Go.part f1.type #[Value.bool z,Value.string s] 1).run P w=Result.ok (Value.string s) w:=fun s z=>run_part_plain w p1 rfl;have e0:(Op.equalIn (d+1) f0.type (.bool n) (.bool m)).run P w=.ok (n == m) w:=by
  simp [Op.equalIn,run_underlying u0]
 have e1:(Op.equalIn (d+1) f1.type (.string a) (.string b)).run P w=.ok (a == b) w:=by
  simp [Op.equalIn,run_underlying u1]
 have hab:(a == b)=decide (a.toList=b.toList):=by
  rw [beq_toListBytes,Bool.eq_iff_iff];simp
 have hf:P.fieldsOf t=#[f0,f1]:=by simp [Program.fieldsOf,hu]
 rw [run_equalIn_struct w (d+1) t _ _ (by rw [hf];exact hu) hst,hf];simp only [Op.eqFields,n0',n1',o0,o1,ne_eq,not_false_eq_true,if_true,Sem.run_bind,q0,q1,e0,e1,Result.andThen_ok,hab];by_cases h1:n=m
 ·simp [h1,q1,e1,hab];by_cases h2:a.toList=b.toList<;>simp [h2]
 ·simp [h1]
theorem aggBS_good [Glob] {op:BinOp}{t t':Nat}{x y:Operand}(hop:o.op=.binOp op t x y t') (hopq:op=.eql∨op=.neq) {f0 f1:Field}(hu:P.underlying t=some (.struct #[f0,f1])) (hst:P.stoodInHeld t=false) (hg:P.eqGuardType P.depth t=false) (n0:(f0.name == "_")=false) (n1:(f1.name == "_")=false) (o0:f0.offset=0) (o1:f1.offset=1)
  (u0:P.underlying f0.type=some .bool) (u1:P.underlying f1.type=some .string) {a b:List UInt8}{n m:Bool}(hx:ρ x=.agg [.bool n,.str a]) (hy:ρ y=.agg [.bool m,.str b]) :
  GoodV P N o ρ h (.bool (match op with | .eql=>decide (n=m∧a=b) | _=>!decide (n=m∧a=b))) [] []:=by
 have agg:∀ {w:World}{F:Nat→Prop}{mm:MM}{z:Bool}{s:List UInt8}{c:Value},VRel w F mm (.agg [.bool z,.str s]) c→c=.agg #[.bool z,.string ⟨s.toArray⟩]:=by
  intro w F mm s z c hv;cases hv with
  | agg cs c hl ho h1 hv =>
   match c,hl with
   | [c0,c1],_ =>
    have e0:=hv 0 _ c0 rfl rfl;have e1:=hv 1 _ c1 rfl rfl;cases e0;cases e1;rfl
 refine GoodV.still fun Γ mm s ac w hr ho hgd=>?_;have h1:=hr.evalO x;have h2:=hr.evalO y;rw [ho x (by simp [hop,Op.operands]),hx] at h1;rw [ho y (by simp [hop,Op.operands]),hy] at h2;have h1:=agg h1;have h2:=agg h2;have he:=run_equal_bs hu hst n0 n1 o0 o1 u0 u1 n m ⟨a.toArray⟩ ⟨b.toArray⟩ w;have ta:(⟨a.toArray⟩:ByteArray).toList=a:=by rw [ByteArray.toList_eq]
 have tb:(⟨b.toArray⟩:ByteArray).toList=b:=by rw [ByteArray.toList_eq]
 rw [ta,tb] at he;refine ⟨_,?_,.bool _,by simp [V.sites]⟩;have hguard:∀ v v',(eqGuard op t x y (.agg v) (.agg v')).run P w=.ok () w:=by
  intro v v';rcases hopq with rfl | rfl<;>simp [eqGuard,hg]
 rcases hopq with rfl | rfl<;>simp [execOp,hop,h1,h2,hguard,binOp,he]
end
end Go.Sx
namespace Go.Sx
open Go
section
variable {P:Program}{N:NB}{T:List (Nat×TI)}{o:Oper}{h:Nat→List Blk}{K:Kont}{ρ:Operand→V}
end
end Go.Sx
namespace Go.Sx
open Go
section
variable {P:Program}{N:NB}{T:List (Nat×TI)}{o:Oper}{h:Nat→List Blk}{K:Kont}{ρ:Operand→V}
def runClearM (T:List (Nat×TI)) (h:Nat→List Blk) (t:Nat) (x:V) (K:Kont):Prop:=
 match look T t with
 | some ⟨.map _ _,_,_,_⟩=>(match x with
  | .omap s i=>blkAt (h s) i fun b=>(match b with
   | .map _ clock _=>K (.tup []) [.upd s i (.map [] clock (some []))] [s]
   | _=>False)
  | _=>False)
 | _=>False
theorem runClearM_ok [Glob] (hT:TableOK P T) {c:Call}{x:Operand}{t:Nat}(hop:o.op=.call c) (hc1:c.callee=.builtin .clear) (hc2:c.args=#[x]) (hc3:c.argTypes=#[t])
  (hk:runClearM T h t (ρ x) K):∃ v us rd,GoodV P N o ρ h v us rd∧K v us rd:=by
 have hmx:x∈o.op.operands:=by simp [hop,Op.operands,Call.operands,hc1,hc2]
 have hexec:∀ {a:Act}{w w':World}{v:Value},(Builtin.clear_ #[t] o.type #[a.eval x]).run P w=.ok v w'→(execOp a.eval o).run P w=.ok (.value v) w':=fun hv=>by
  simp [execOp,hop,resolve,hc1,hc2,hc3,invoke,builtin,hv]
 unfold runClearM at hk;split at hk
 ·rename_i kt et s0 b0 z0 hti;split at hk
  ·rename_i s1 i1 hx;obtain ⟨d0,i0,zz,g1,g2,g3,_⟩:=hT _ _ hti;have:=tkOf_map g3;subst this;obtain ⟨b,hb,hk⟩:=blkAt_get hk;split at hk
   ·rename_i es clock ks;refine ⟨_,_,_,fun Γ m s a w hN hr ho hg hmade=>?_,hk⟩;have hvx:=hr.evalO x;rw [ho x hmx,hx] at hvx;have hh:(s.heap s1)[i1]?=some (.map es clock ks):=by rw [hg s1 (by simp)];exact hb
    obtain ⟨y,hy,hc,hB⟩:=hr.omap_inv hvx hh;obtain ⟨ents,h5,hE⟩:=hB.ents;obtain ⟨m',hr',carry⟩:=map_change hr hh hy hB (ents':=#[]) (es':=[]) (clock':=clock) (ks':=some []) ⟨rfl,fun i e he=>by simp at he,fun i j e f he=>by simp at he,fun i b k v hi=>by simp at hi⟩ (fun k hk=>by cases hk);refine ⟨.value (.tuple #[]),_,_,m',hexec ?_,.inl rfl,hr',.tup [] [] rfl (by simp),fun k hk=>by cases hk⟩;rw [hc];have hg0:(getObj y.b).run P w=.ok (.map ents clock) w:=by simp [getObj,Sem.run,h5]
    have hset:=run_setMap (P:=P) h5 #[] clock;unfold Builtin.clear_;simp [run_underlying g1,hg0,hset]
   ·exact hk.elim
  ·exact hk.elim
 ·exact hk.elim
end
end Go.Sx
