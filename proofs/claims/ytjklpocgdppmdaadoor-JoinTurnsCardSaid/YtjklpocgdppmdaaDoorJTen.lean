/- Two steps from one table in both orders, and the law. -/
import Derived.Test.YtjklpocgdppmdaaDoorJNine
import Derived.Test.YtjklpocgdppmdaaDoorSxFive
import Derived.Test.YtjklpocgdppmdaaDoorSxFour
set_option linter.unusedVariables false
set_option linter.unusedSimpArgs false
namespace Go.Sx.Sp
open Go Go.Sx Go.Proofs
attribute [local irreducible] GoodW famL
def twoS (a : Table) (b : Table) (x y : Nat) (c : Table) (u v : Nat) : Pth := ⟨a.id, [⟨a.id, (x : Int), b.id, (y : Int)⟩, ⟨a.id, (u : Int), c.id, (v : Int)⟩]⟩
section
variable {l : List Table} {a b c : Table} {x y u v : Nat}
theorem twoS_par (j : Nat) (hj : j < 2) : parI (twoS a b x y c u v) j = 0 := by
  match j, hj with
  | 0, _ => exact Nat.le_zero.1 (parI_le (twoS a b x y c u v) (i := 0) (Nat.zero_le _))
  | 1, _ =>
    show placeI [a.id, b.id] a.id = 0
    simp [placeI, ixI]
theorem twoS_tabs (ha : findT l a.id = some a) (hb : findT l b.id = some b) (hc : findT l c.id = some c) : tabN l (twoS a b x y c u v) 0 = a ∧ tabN l (twoS a b x y c u v) 1 = b ∧ tabN l (twoS a b x y c u v) 2 = c :=
  ⟨tabOf_some ha, tabOf_some hb, tabOf_some hc⟩
theorem twoS_valid (hl : listB l = true) (ha : findT l a.id = some a) (hb : findT l b.id = some b) (hc : findT l c.id = some c) (hab : a.id ≠ b.id) (hac : a.id ≠ c.id) (hbc : b.id ≠ c.id) (hx : x < a.cols.length) (hy : y < b.cols.length) (hu : u < a.cols.length) (hv : v < c.cols.length) : validE l (twoS a b x y c u v) = 0 := by
  have hget : ∀ {t : Table} {k : Nat}, findT l t.id = some t → k < t.cols.length → (getC l t.id (k : Int)).isSome = true := fun {t k} ht hk => by
    unfold getC
    rw [ht]
    simp [hk]
  have h2 : pathB l (twoS a b x y c u v) = true := by
    refine pathB_true ?_ fun j hj => ?_
    · show (findT l a.id).isSome = true
      rw [ha]; rfl
    · have hj : j < 2 := hj
      match j, hj with
      | 0, _ =>
        show ((getC l a.id (x : Int)).isSome && ((getC l b.id (y : Int)).isSome && (decide (a.id ∈ befT (twoS a b x y c u v) 0) && !decide (b.id ∈ befT (twoS a b x y c u v) 0)))) = true
        rw [hget ha hx, hget hb hy, show befT (twoS a b x y c u v) 0 = [a.id] from rfl]
        simp [Ne.symm hab]
      | 1, _ =>
        show ((getC l a.id (u : Int)).isSome && ((getC l c.id (v : Int)).isSome && (decide (a.id ∈ befT (twoS a b x y c u v) 1) && !decide (c.id ∈ befT (twoS a b x y c u v) 1)))) = true
        rw [hget ha hu, hget hc hv, show befT (twoS a b x y c u v) 1 = [a.id, b.id] from rfl]
        simp [Ne.symm hac, Ne.symm hbc]
  unfold validE
  rw [if_pos hl, if_pos (show (twoS a b x y c u v).steps.length ≤ 4 by show 2 ≤ 4; omega), if_pos h2]
def fitK (t : Table) (k : Nat) (q : Cell) : Int := sumTo (rowsN t) fun i => if fitC q (cellT t k i) = true then 1 else 0
theorem twoS_fit (h : validE l (twoS a b x y c u v) = 0) (ha : findT l a.id = some a) (hb : findT l b.id = some b) (hc : findT l c.id = some c) (q : Cell) : fitS l (twoS a b x y c u v) 1 q = fitK b y q ∧ fitS l (twoS a b x y c u v) 2 q = fitK c v q := by
  obtain ⟨t0, t1, t2⟩ := twoS_tabs (x := x) (y := y) (u := u) (v := v) ha hb hc
  have hone : ∀ i r, 1 ≤ i → i ≤ 2 → r < rowsN (tabN l (twoS a b x y c u v) i) → cntI l (twoS a b x y c u v) i r = 1 := fun i r h1 h2 hr => by
    rw [cntI_prod (show i ≤ (twoS a b x y c u v).steps.length from h2) hr]
    have : prodTo (twoS a b x y c u v).steps.length (fun q => if parI (twoS a b x y c u v) q = i then fitS l (twoS a b x y c u v) (q + 1) (cellT (tabN l (twoS a b x y c u v) i) (frN l (twoS a b x y c u v) (q + 1)) r) else 1) = prodTo (twoS a b x y c u v).steps.length (fun _ => 1) :=
      prodTo_congr fun q hq => by rw [twoS_par q hq, if_neg (by omega)]
    rw [this, prodTo_one]
  have hgen : ∀ i, 1 ≤ i → i ≤ 2 → fitS l (twoS a b x y c u v) i q = fitK (tabN l (twoS a b x y c u v) i) (ownN l (twoS a b x y c u v) i) q := fun i h1 h2 => by
    unfold fitS fitK
    refine sumTo_congr fun r hr => ?_
    rw [hone i r h1 h2 hr]
  refine ⟨?_, ?_⟩
  · rw [hgen 1 (by omega) (by omega), t1]; rfl
  · rw [hgen 2 (by omega) (by omega), t2]; rfl
theorem twoS_count (h : validE l (twoS a b x y c u v) = 0) (ha : findT l a.id = some a) (hb : findT l b.id = some b) (hc : findT l c.id = some c) :
    ((rowsL l (twoS a b x y c u v)).length : Int) = sumTo (rowsN a) fun r => fitK b y (cellT a x r) * fitK c v (cellT a u r) := by
  obtain ⟨t0, t1, t2⟩ := twoS_tabs (x := x) (y := y) (u := u) (v := v) ha hb hc
  rw [← rows_total, t0]
  refine sumTo_congr fun r hr => ?_
  rw [cntI_prod (Nat.zero_le _) (by rw [t0]; exact hr)]
  show prodTo 2 _ = _
  have hp : ∀ f : Nat → Int, prodTo 2 f = f 0 * f 1 := fun f => by simp [prodTo]
  rw [hp, twoS_par 0 (by omega), twoS_par 1 (by omega), if_pos rfl, if_pos rfl, t0, (twoS_fit h ha hb hc _).1, (twoS_fit h ha hb hc _).2]
  rfl
theorem twoS_swap_len (h : validE l (twoS a b x y c u v) = 0) (h' : validE l (twoS a c u v b x y) = 0) (ha : findT l a.id = some a) (hb : findT l b.id = some b) (hc : findT l c.id = some c) : (rowsL l (twoS a b x y c u v)).length = (rowsL l (twoS a c u v b x y)).length := by
  have h1 := twoS_count h ha hb hc
  have h2 := twoS_count h' ha hc hb
  have h3 : (sumTo (rowsN a) fun r => fitK b y (cellT a x r) * fitK c v (cellT a u r)) = sumTo (rowsN a) fun r => fitK c v (cellT a u r) * fitK b y (cellT a x r) := sumTo_congr fun r _ => Int.mul_comm _ _
  omega
theorem twoS_swap_mem (h : validE l (twoS a b x y c u v) = 0) (h' : validE l (twoS a c u v b x y) = 0) (ha : findT l a.id = some a) (hb : findT l b.id = some b) (hc : findT l c.id = some c) {r : List Nat} (hr : r ∈ rowsL l (twoS a c u v b x y)) :
    r.length = 3 ∧ [r.getD 0 0, r.getD 2 0, r.getD 1 0] ∈ rowsL l (twoS a b x y c u v) := by
  obtain ⟨hl, hlt, hfit⟩ := rowsL_mem hr
  obtain ⟨t0, t1, t2⟩ := twoS_tabs (x := x) (y := y) (u := u) (v := v) ha hb hc
  obtain ⟨s0, s1, s2⟩ := twoS_tabs (x := u) (y := v) (u := x) (v := y) ha hc hb
  have f0 := hfit 0 (show 0 + 1 < 2 + 1 by omega)
  have f1 := hfit 1 (show 1 + 1 < 2 + 1 by omega)
  rw [twoS_par 0 (by omega)] at f0
  rw [twoS_par 1 (by omega)] at f1
  have l0 := hlt 0 (show 0 < 2 + 1 by omega)
  have l1 := hlt 1 (show 1 < 2 + 1 by omega)
  have l2 := hlt 2 (show 2 < 2 + 1 by omega)
  rw [s0] at l0
  rw [s1] at l1
  rw [s2] at l2
  refine ⟨hl, ?_⟩
  have hcomb : Comb l (twoS a b x y c u v) (fun i => [r.getD 0 0, r.getD 2 0, r.getD 1 0].getD i 0) := by
    refine ⟨fun i hi => ?_, fun q hq => ?_⟩
    · have hi : i < 3 := hi
      match i, hi with
      | 0, _ => rw [t0]; exact l0
      | 1, _ => rw [t1]; exact l2
      | 2, _ => rw [t2]; exact l1
    · have hq : q + 1 < 3 := hq
      match q, hq with
      | 0, _ =>
        rw [twoS_par 0 (by omega)]
        unfold stepFits at f1 ⊢
        rw [twoS_par 1 (by omega), s0, s2] at f1
        rw [twoS_par 0 (by omega), t0, t1]
        exact f1
      | 1, _ =>
        rw [twoS_par 1 (by omega)]
        unfold stepFits at f0 ⊢
        rw [twoS_par 0 (by omega), s0, s1] at f0
        rw [twoS_par 1 (by omega), t0, t2]
        exact f0
  exact rowsL_has hcomb
end
end Go.Sx.Sp
namespace Go.Sx.Sp
open Go Go.Sx Go.Proofs
attribute [local irreducible] GoodW famL
theorem checkKey_arr {P : Program} {t e m : Nat} {i : TypeInfo} (hu : P.underlying t = some (.array m e)) (hue : P.underlying e = some (.int .i64)) (hi : P.info? e = some i) (hc : P.cellsOf e = 1) (em : Bool) (d : Nat) (l : List Int) (hl : l.length = m) (w : World) :
    (Instr.checkKey em (d + 2) t (.agg (arrI l))).run P w = .ok () w := by
  have hel : ∀ x w, (Instr.checkKey em (d + 1) e (.int .i64 x)).run P w = .ok () w := fun x w => by simp [Instr.checkKey, run_underlying hue]
  have p0 : P.plainKey e = true := by simp [Program.plainKey, hue]
  rw [Instr.checkKey]
  simp only [Sem.run_bind, run_underlying hu, Result.andThen_ok]
  simp only [Std.Legacy.Range.forIn_eq_forIn_range', Std.Legacy.Range.size, Nat.sub_zero, Nat.add_one_sub_one, Nat.div_one]
  have hmem : ∀ j ∈ List.range' 0 m, j < l.length := fun j hj => by
    have := (List.mem_range'_1.1 hj).2
    omega
  generalize List.range' 0 m = is at hmem
  induction is with
  | nil => simp
  | cons j is ih =>
    have hj := hmem j (by simp)
    have hp := run_part_plain (P := P) w p0 (arrI_get (l := l) hj)
    simp only [List.forIn_cons, Sem.run_bind, _root_.Go.run_sizeOf w hi, Result.andThen_ok, hc, Nat.mul_one, hp, hel]
    exact ih fun q hq => hmem q (by simp [hq])
theorem keyI3 : KeyI Tryd.prog 45 3 := by
  obtain ⟨i, hi⟩ := info_of_underlying (P := Tryd.prog) Tryd.underlying3
  refine ⟨⟨_, Tryd.underlying45, fun xs v => rfl⟩, fun l l' w h1 h2 => ?_, fun em l w h => ?_⟩
  · exact (eqI_array (d := 9999) (m := 3) (c := 1) Tryd.underlying45 hi (by kernel_rfl) Tryd.isAgg45 Tryd.sizeOf45 (eqI_int Tryd.underlying3)).equal rfl Tryd.isAgg45 Tryd.sizeOf45 h1 h2 w
  · exact checkKey_arr (d := 9998) Tryd.underlying45 Tryd.underlying3 hi (by kernel_rfl) em l h w
theorem three31_of {l : List Table} (h : ∀ k (hk : k < l.length), TabJ k l[k]) (hl : l.length = 3) : ∃ a b c, l = [a, b, c] ∧ TabJ 0 a ∧ TabJ 1 b ∧ TabJ 2 c := by
  match l, hl with
  | [a, b, c], _ => exact ⟨a, b, c, rfl, h 0 (by simp), h 1 (by simp), h 2 (by simp)⟩
def key31 (r : List Nat) : List Int := r.map fun (n : Nat) => (n : Int)
def set31 (R : List (List Nat)) : List (List Int) := R.foldl (fun (S : List (List Int)) (r : List Nat) => arrIns S (key31 r)) []
theorem set31_snoc (R : List (List Nat)) (r : List Nat) : set31 (R ++ [r]) = arrIns (set31 R) (key31 r) := by simp [set31]
theorem arrIns_mem {L : List (List Int)} {l x : List Int} : x ∈ arrIns L l ↔ x ∈ L ∨ x = l := by
  unfold arrIns
  by_cases h : l ∈ L
  · rw [if_pos h]
    constructor
    · exact .inl
    · rintro (h1 | h1)
      · exact h1
      · rw [h1]; exact h
  · rw [if_neg h]; simp
theorem set31_mem {x : List Int} : ∀ {R : List (List Nat)}, x ∈ set31 R ↔ ∃ r ∈ R, x = key31 r := by
  intro R
  have key : ∀ (R : List (List Nat)) (S : List (List Int)), x ∈ R.foldl (fun (S : List (List Int)) (r : List Nat) => arrIns S (key31 r)) S ↔ x ∈ S ∨ ∃ r ∈ R, x = key31 r := by
    intro R
    induction R with
    | nil => intro S; simp
    | cons r R ih =>
      intro S
      rw [List.foldl_cons, ih, arrIns_mem]
      constructor
      · rintro ((h | h) | ⟨q, h1, h2⟩)
        · exact .inl h
        · exact .inr ⟨r, by simp, h⟩
        · exact .inr ⟨q, by simp [h1], h2⟩
      · rintro (h | ⟨q, h1, h2⟩)
        · exact .inl (.inl h)
        · rcases List.mem_cons.1 h1 with rfl | h1
          · exact .inl (.inr h2)
          · exact .inr ⟨q, h1, h2⟩
  rw [set31, key]
  simp
theorem rows_few {l : List Table} {a b c : Table} {x y u v : Nat} (ha : findT l a.id = some a) (hb : findT l b.id = some b) (hc : findT l c.id = some c) (h1 : rowsN a ≤ 5) (h2 : rowsN b ≤ 5) (h3 : rowsN c ≤ 5) : (rowsL l (twoS a b x y c u v)).length ≤ 125 := by
  obtain ⟨t0, t1, t2⟩ := twoS_tabs (x := x) (y := y) (u := u) (v := v) ha hb hc
  rw [← fits_rows]
  refine Nat.le_trans (List.length_filter_le _ _) ?_
  refine Nat.le_trans (allP_many (l := l) (p := twoS a b x y c u v) 3 fun j hj => ?_) (by decide)
  match j, hj with
  | 0, _ => rw [t0]; exact h1
  | 1, _ => rw [t1]; exact h2
  | 2, _ => rw [t2]; exact h3
theorem look_true {N : Nat} {o : Oper} {h : Nat → List Blk} {ρ : Operand → V} {x k : Operand} {S : List (List Int)} {l : List Int} (hop : o.op = .lookup 44 x k false) (hx : ρ x = .omap 72 0) (hb : (h 72)[0]? = some (.map (arrE S) S.length (some []))) (hk : ρ k = aggV l) (hl : l.length = 3) (hS : ∀ s ∈ S, s.length = 3) (hm : l ∈ S) (hd : dstOK N o.dst = true) : GoodW Tryd.prog N o ρ h (.bool true) [] [72] := by
  have := setLook_good (P := Tryd.prog) (N := N) (o := o) (h := h) (ρ := ρ) (t := 44) (kt := 45) (et := 4) (n := 3) (L := S) (clock := S.length) (ks := some []) (s1 := 72) (i1 := 0) (l := l) hop Tryd.underlying44 Tryd.zeroValue4 keyI3 hx hb hk hl hS
  rw [decide_eq_true hm] at this
  exact this.toW hd
set_option maxHeartbeats 16000000 in
theorem turns31_law (t : List Int) : Spec Tryd.prog 3 [.sl (intRows .i64 t) false] [] (.bool true) [] := by
  have hl := intRows_len .i64 t
  have spL := light_spec t
  have spA := awake31_spec
  by_cases hll : t.length ≤ 500
  · rw [decide_eq_true hll] at spL
    obtain ⟨⟨j1, j2⟩, j3, j4⟩ := joined_ok (l := t) (most := 3) (p := 0) (by omega) (Nat.zero_le _)
    have spJ := joined_spec t 3 0 (by omega) (Nat.zero_le _)
    generalize (joinedF t 3 0).1 = L at *
    generalize (joinedF t 3 0).2 = q at *
    have j2 : L.length ≤ 3 := j2
    have hlist := listB_J j3 (by omega)
    have hLl := tblRows_len L
    by_cases h3 : L.length = 3
    · obtain ⟨a, b, c, rfl, ja, jb, jc⟩ := three31_of j3 h3
      have hia : a.id = 1 := ja.id
      have hib : b.id = 2 := jb.id
      have hic : c.id = 3 := jc.id
      have fa : findT [a, b, c] a.id = some a := by simp [findT]
      have fb : findT [a, b, c] b.id = some b := by simp [findT, hia, hib]
      have fc : findT [a, b, c] c.id = some c := by simp [findT, hia, hib, hic]
      have hca := colRows_len a.cols
      have hfa := ja.few
      have hfb := jb.few
      have hfc := jc.few
      have n1 := next_spec t q ((colRows a.cols).length : Nat) (by omega) j4
      have r1 := nextV_range t q (n := ((colRows a.cols).length : Nat)) (by omega)
      obtain ⟨u, hu⟩ := Int.eq_ofNat_of_zero_le r1.1
      rw [hu] at n1 r1
      have hul : u < a.cols.length := by omega
      have v1 := twoS_valid (x := 0) (y := 0) (u := u) (v := 0) hlist fa fb fc (by omega) (by omega) (by omega) (by omega) (by omega) hul (by omega)
      have v2 := twoS_valid (x := u) (y := 0) (u := 0) (v := 0) hlist fa fc fb (by omega) (by omega) (by omega) hul (by omega) (by omega) (by omega)
      have hlen := twoS_swap_len v1 v2 fa fb fc
      have hmem := fun r => twoS_swap_mem (r := r) v1 v2 fa fb fc
      have hl1 := fun r hr => (rowsL_mem (l := [a, b, c]) (p := twoS a b 0 0 c u 0) (x := r) hr).1
      have hf1 := rows_few (x := 0) (y := 0) (u := u) (v := 0) fa fb fc (tabJ_rows ja) (tabJ_rows jb) (tabJ_rows jc)
      have hf2 := rows_few (x := u) (y := 0) (u := 0) (v := 0) fa fc fb (tabJ_rows ja) (tabJ_rows jc) (tabJ_rows jb)
      have sp1 := rowsJ_spec [a, b, c] (twoS a b 0 0 c u 0)
      have sp2 := rowsJ_spec [a, b, c] (twoS a c u 0 b 0 0)
      have hr1 : (twoS a b 0 0 c u 0).row = [.int .i64 1, .sl [[.int .i64 1, .int .i64 0, .int .i64 2, .int .i64 0], [.int .i64 1, .int .i64 (u : Nat), .int .i64 3, .int .i64 0]] false] := by simp [twoS, Pth.row, stpRows, Stp.row, hia, hib, hic]
      have hr2 : (twoS a c u 0 b 0 0).row = [.int .i64 1, .sl [[.int .i64 1, .int .i64 (u : Nat), .int .i64 3, .int .i64 0], [.int .i64 1, .int .i64 0, .int .i64 2, .int .i64 0]] false] := by simp [twoS, Pth.row, stpRows, Stp.row, hia, hib, hic]
      have he1 : rowsE [a, b, c] (twoS a b 0 0 c u 0) = (rowsL [a, b, c] (twoS a b 0 0 c u 0), 0) := by unfold rowsE; rw [if_pos v1, if_pos (by omega)]
      have he2 : rowsE [a, b, c] (twoS a c u 0 b 0 0) = (rowsL [a, b, c] (twoS a c u 0 b 0 0), 0) := by unfold rowsE; rw [if_pos v2, if_pos (by omega)]
      rw [he1, hr1] at sp1
      rw [he2, hr2] at sp2
      simp only at sp1 sp2
      generalize rowsL [a, b, c] (twoS a b 0 0 c u 0) = R1 at *
      generalize rowsL [a, b, c] (twoS a c u 0 b 0 0) = R2 at *
      have hR1 := rowRows_len R1
      have hR2 := rowRows_len R2
      have hga : (tblRows [a, b, c])[0]? = some a.row := rfl
      generalize tblRows [a, b, c] = TR at *
      refine gEn env Tryd.func3 fun Γ hN hK hML => ?_
      (refine gGo ?_; intros)
      (refine gPC (spL) ?_; conv => whnf)
      (refine gGo ?_; intros)
      (refine gCA [] [(5, 170)] [] (roll_spec t) ?_; conv => whnf)
      (refine gGo ?_; intros)
      (refine gCA [(0, 170)] [] [] (spJ) ?_; conv => whnf)
      (refine gGo ?_; intros)
      refine rowAt_of (r := a.row) (by simpa using hga) ?_
      conv => whnf
      (refine gGo ?_; intros)
      (refine gCA [(0, 170)] [] [] (n1) ?_; conv => whnf)
      (refine gGo ?_; intros)
      (refine gPC (sp1) ?_; conv => whnf)
      (refine gGo ?_; intros)
      (refine gPC (sp2) ?_; conv => whnf)
      (refine gGo ?_; intros)
      refine W.leG (mp := [(72, 72)]) (bo := []) (st' := ⟨[(7, .sl (rowRows R1) false), (9, .sl (rowRows R2) false), (11, .omap 72 0), (73, .sl (rowRows R1) false), (74, .int .i64 (rowRows R1).length), (75, .int .i64 (0 : Nat))], [(72, [.map (arrE (set31 (R1.take 0))) (set31 (R1.take 0)).length (some [])])], [72]⟩)
        (LeG.mq (.ci 72 .nil)) ?_
      refine W.loopG (fun m st => ∃ k : Nat, k ≤ R1.length ∧ m = R1.length - k ∧ st = ⟨[(7, .sl (rowRows R1) false), (9, .sl (rowRows R2) false), (11, .omap 72 0), (73, .sl (rowRows R1) false), (74, .int .i64 (rowRows R1).length), (75, .int .i64 (k : Nat))], [(72, [.map (arrE (set31 (R1.take k))) (set31 (R1.take k)).length (some [])])], [72]⟩)
        R1.length _ ⟨0, by omega, by omega, rfl⟩ ⟨[(72, 72)], [], [], LeG.mq (.ci 72 .nil)⟩ ?_
      rintro m st ⟨k, hk, rfl, rfl⟩
      (refine gGo ?_; intros)
      refine boolRes_split (fun hb => ?_) (fun hb => ?_) <;> conv => whnf
      · have hkl : k < R1.length := by omega
        have hg := rowRows_get hkl
        have h3l := hl1 _ (List.getElem_mem hkl)
        have hsn : set31 (R1.take (k + 1)) = arrIns (set31 (R1.take k)) (key31 R1[k]) := by rw [List.take_succ_eq_append_getElem hkl, set31_snoc]
        have hS : ∀ s ∈ set31 (R1.take k), s.length = 3 := fun s hs => by
          obtain ⟨r, hr, rfl⟩ := set31_mem.1 hs
          have := hl1 r (List.mem_of_mem_take hr)
          unfold key31
          rw [List.length_map]; exact this
        generalize R1[k] = r at *
        obtain ⟨x0, x1, x2, rfl⟩ : ∃ x0 x1 x2, r = [x0, x1, x2] := by
          match r, h3l with
          | [x0, x1, x2], _ => exact ⟨x0, x1, x2, rfl⟩
        generalize set31 (R1.take k) = S at *
        (refine gGo ?_; intros)
        refine rowAt_of (by simpa using hg) ?_
        conv => whnf
        (refine gGo ?_; intros)
        refine ⟨_, _, _, (setUpd_good (t := 44) (kt := 45) (et := 4) (n := 3) (L := S) (ks := some []) (s1 := 72) (i1 := 0) (l := [(x0 : Int), (x1 : Int), (x2 : Int)]) rfl Tryd.underlying44 keyI3 rfl rfl rfl rfl hS rfl).toW (by kernel_rfl), ?_⟩
        conv => whnf
        (refine gGo ?_; intros)
        refine ⟨_, _, ?_, ⟨k + 1, by omega, rfl, rfl⟩, [(72, 72)], [], [], LeG.mq (.cons 72 rfl rfl (.refl _) (by rw [hsn]; rfl) .nil)⟩
        omega
      · have hke : k = R1.length := by omega
        rw [hke, List.take_length]
        have hS : ∀ s ∈ set31 R1, s.length = 3 := fun s hs => by
          obtain ⟨r, hr, rfl⟩ := set31_mem.1 hs
          have := hl1 r hr
          unfold key31
          rw [List.length_map]; exact this
        have hin : ∀ r, r ∈ R2 → ∃ x0 x1 x2, r = [x0, x1, x2] ∧ [(x0 : Int), (x2 : Int), (x1 : Int)] ∈ set31 R1 := fun r hr => by
          obtain ⟨h1, h2⟩ := hmem r hr
          match r, h1 with
          | [x0, x1, x2], _ => exact ⟨x0, x1, x2, rfl, set31_mem.2 ⟨_, h2, rfl⟩⟩
        generalize set31 R1 = S at *
        refine gA ?_
        refine gD rfl ?_
        refine gG ?_
        conv => whnf
        (refine gGo ?_; intros)
        refine W.leG (mp := [(72, 72)]) (bo := []) (st' := ⟨[(9, .sl (rowRows R2) false), (11, .omap 72 0), (91, .sl (rowRows R2) false), (92, .int .i64 (rowRows R2).length), (93, .int .i64 (0 : Nat))], [(72, [.map (arrE S) S.length (some [])])], [72]⟩)
          (LeG.mq (.ci 72 .nil)) ?_
        refine W.loopG (fun m st => ∃ k : Nat, k ≤ R2.length ∧ m = R2.length - k ∧ st = ⟨[(9, .sl (rowRows R2) false), (11, .omap 72 0), (91, .sl (rowRows R2) false), (92, .int .i64 (rowRows R2).length), (93, .int .i64 (k : Nat))], [(72, [.map (arrE S) S.length (some [])])], [72]⟩)
          R2.length _ ⟨0, by omega, by omega, rfl⟩ ⟨[(72, 72)], [], [], LeG.mq (.ci 72 .nil)⟩ ?_
        rintro m st ⟨k, hk, rfl, rfl⟩
        (refine gGo ?_; intros)
        refine boolRes_split (fun hb => ?_) (fun hb => ?_) <;> conv => whnf
        · have hkl : k < R2.length := by omega
          have hg := rowRows_get hkl
          obtain ⟨x0, x1, x2, hr, hmem2⟩ := hin _ (List.getElem_mem hkl)
          rw [hr] at hg
          (refine gGo ?_; intros)
          refine rowAt_of (by simpa using hg) ?_
          conv => whnf
          (refine gGo ?_; intros)
          refine ⟨_, _, _, look_true (S := S) (l := [(x0 : Int), (x2 : Int), (x1 : Int)]) rfl rfl rfl rfl rfl hS hmem2 (by kernel_rfl), ?_⟩
          conv => whnf
          (refine gGo ?_; intros)
          refine ⟨_, _, ?_, ⟨k + 1, by omega, rfl, rfl⟩, [(72, 72)], [], [], LeG.mq (.ci 72 .nil)⟩
          omega
        · (refine gGo ?_; intros)
          (refine gPC (spA) ?_; conv => whnf)
          (refine gGr ?_; intros)
          exact ret0 rfl rfl rfl
    · refine gEn env Tryd.func3 fun Γ hN hK hML => ?_
      (refine gGo ?_; intros)
      (refine gPC (spL) ?_; conv => whnf)
      (refine gGo ?_; intros)
      (refine gCA [] [(5, 170)] [] (roll_spec t) ?_; conv => whnf)
      (refine gGo ?_; intros)
      (refine gCA [(0, 170)] [] [] (spJ) ?_; conv => whnf)
      (refine gGo ?_; intros)
      (refine gPC (spA) ?_; conv => whnf)
      (refine gGr ?_; intros)
      exact ret0 rfl rfl rfl
  · rw [decide_eq_false hll] at spL
    refine gEn env Tryd.func3 fun Γ hN hK hML => ?_
    (refine gGo ?_; intros)
    (refine gPC (spL) ?_; conv => whnf)
    (refine gGo ?_; intros)
    (refine gPC (spA) ?_; conv => whnf)
    (refine gGr ?_; intros)
    exact ret0 rfl rfl rfl
theorem turns31_calls {w : World} {v0 : Value} {u0 : V} (r0 : VRel w (fun _ => False) (fun _ _ => none) u0 v0) (a0 : argShape T 2 22 u0) (hg : GRel w (fun _ => False)) :
    Calls Tryd.prog 3 #[v0] w fun e w' => e = .returned (.bool true) ∧ Go.RowKit.Below w.heap.size w w' := by
  obtain ⟨l, rfl⟩ := arg_ints a0
  refine Spec.law (turns31_law l) (cargs := [v0]) rfl (fun j u c hj hc => ?_) rfl hg
  match j with
  | 0 => cases hj; cases hc; exact r0
  | j + 1 => cases hj
end Go.Sx.Sp
