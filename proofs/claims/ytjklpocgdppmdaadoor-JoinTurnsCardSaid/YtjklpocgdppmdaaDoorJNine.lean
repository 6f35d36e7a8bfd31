/- Joining two tables, and the table of a path. -/
import Derived.Test.YtjklpocgdppmdaaDoorJEight
import Derived.Test.YtjklpocgdppmdaaDoorJFour
import Derived.Test.YtjklpocgdppmdaaDoorSxFour
set_option linter.unusedVariables false
set_option linter.unusedSimpArgs false
namespace Go.Sx.Sp
open Go Go.Sx Go.Proofs
attribute [local irreducible] GoodW famL
theorem nilW_app (a b : List Column) : nilW (a ++ b) = nilW a ++ nilW b := by simp [nilW]
theorem flat_snoc {ts : List Table} {i : Nat} {t : Table} (h : ts[i]? = some t) : (ts.take (i + 1)).flatMap Table.cols = (ts.take i).flatMap Table.cols ++ t.cols := by
  obtain ⟨h1, h2⟩ := List.getElem?_eq_some_iff.1 h
  rw [List.take_succ_eq_append_getElem h1, List.flatMap_append, h2]; simp
set_option maxHeartbeats 8000000 in
theorem empty_spec (t0 : Table) (ts : List Table) (hl : ts.length ≤ 100) (hc : ∀ t ∈ t0 :: ts, t.cols.length ≤ 64) :
    Spec Tryd.prog 20 [.sl (tblRows (t0 :: ts)) false] [] (.agg [.int .i64 t0.id, .str t0.name, .osl 70 0 0 (nilW ((t0 :: ts).flatMap Table.cols)).length (nilW ((t0 :: ts).flatMap Table.cols)).length]) [(70, .rows 2 (nilW ((t0 :: ts).flatMap Table.cols)) (some []))] := by
  have htl := tblRows_len (t0 :: ts)
  have hll : (t0 :: ts).length = ts.length + 1 := rfl
  have hb : ∀ i, i ≤ (t0 :: ts).length → (((t0 :: ts).take i).flatMap Table.cols).length ≤ i * 64 := fun i => by
    induction i with
    | zero => intro _; simp
    | succ i ih =>
      intro hi
      have h1 : (t0 :: ts)[i]? = some (t0 :: ts)[i] := List.getElem?_eq_getElem (by omega)
      rw [flat_snoc h1, List.length_append]
      have := ih (by omega)
      have := hc _ (List.getElem_mem (show i < (t0 :: ts).length by omega))
      omega
  have hg0 : (tblRows (t0 :: ts))[0]? = some t0.row := rfl
  refine gEn env Tryd.func20 fun Γ hN hK hML => ?_
  (refine gGo ?_; intros)
  refine W.ownCell 3 0 2 70 2 rfl rfl rfl rfl rfl ?_
  refine W.leG (mp := [(2, 2), (3, 3), (70, 70)]) (bo := []) (st' := ⟨[(2, .bp 2 0), (3, .bp 3 0), (17, .sl (tblRows (t0 :: ts)) false), (18, .int .i64 (tblRows (t0 :: ts)).length), (19, .int .i64 (0 : Nat))], [(2, [.rows 3 [[.int .i64 0, .str [], .nils]] none]), (3, [.rows 3 [[.int .i64 t0.id, .str t0.name, .osl 70 0 0 (nilW (([] : List Column))).length (nilW (([] : List Column))).length]] none]), (70, [.rows 2 (nilW (([] : List Column))) (some [])])], [2, 3, 70]⟩)
    (LeG.mq (.ci 2 (.ci 3 (.ci 70 .nil)))) ?_
  refine W.loopG (fun m st => ∃ i : Nat, i ≤ (t0 :: ts).length ∧ m = (t0 :: ts).length - i ∧ st = ⟨[(2, .bp 2 0), (3, .bp 3 0), (17, .sl (tblRows (t0 :: ts)) false), (18, .int .i64 (tblRows (t0 :: ts)).length), (19, .int .i64 i)], [(2, [.rows 3 [[.int .i64 0, .str [], .nils]] none]), (3, [.rows 3 [[.int .i64 t0.id, .str t0.name, .osl 70 0 0 (nilW ((((t0 :: ts).take i).flatMap Table.cols))).length (nilW ((((t0 :: ts).take i).flatMap Table.cols))).length]] none]), (70, [.rows 2 (nilW ((((t0 :: ts).take i).flatMap Table.cols))) (some [])])], [2, 3, 70]⟩)
    (t0 :: ts).length _ ⟨0, by omega, by omega, rfl⟩ ⟨[(2, 2), (3, 3), (70, 70)], [], [], .mq (.ci 2 (.ci 3 (.ci 70 .nil)))⟩ ?_
  rintro m st ⟨i, hi, rfl, rfl⟩
  have hbi := hb i hi
  (refine gGo ?_; intros)
  refine boolRes_split (fun hb => ?_) (fun hb => ?_) <;> conv => whnf
  · have hlt : i < (t0 :: ts).length := by omega
    have hg := tblRows_get hlt
    have hsn := flat_snoc (List.getElem?_eq_getElem hlt)
    have hct := hc _ (List.getElem_mem hlt)
    generalize (t0 :: ts)[i] = t at *
    generalize ((t0 :: ts).take i).flatMap Table.cols = A at *
    have hcl := colRows_len t.cols
    (refine gGo ?_; intros)
    refine rowAt_of (by simpa using hg) ?_
    conv => whnf
    (refine gGo ?_; intros)
    refine W.loopG (fun m st => ∃ q : Nat, q ≤ t.cols.length ∧ m = t.cols.length - q ∧ st = ⟨[(2, .bp 2 0), (3, .bp 3 0), (17, .sl (tblRows (t0 :: ts)) false), (18, .int .i64 (tblRows (t0 :: ts)).length), (19, .int .i64 i), (24, .sl (colRows t.cols) false), (25, .int .i64 (colRows t.cols).length), (26, .int .i64 q)], [(2, [.rows 3 [[.int .i64 0, .str [], .nils]] none]), (3, [.rows 3 [[.int .i64 t0.id, .str t0.name, .osl 70 0 0 (nilW ((A ++ t.cols.take q))).length (nilW ((A ++ t.cols.take q))).length]] none]), (70, [.rows 2 (nilW ((A ++ t.cols.take q))) (some [])])], [2, 3, 70]⟩)
      t.cols.length _ ⟨0, by omega, by omega, rfl⟩ ⟨[(2, 2), (3, 3), (70, 70)], [], [], .mq (.ci 2 (.cons 3 rfl rfl (.refl _) (by rw [List.take_zero, List.append_nil]; rfl) (.cons 70 rfl rfl (.refl _) (by rw [List.take_zero, List.append_nil]; rfl) .nil)))⟩ ?_
    rintro m st ⟨q, hq, rfl, rfl⟩
    have hnl := nilW_len (A ++ t.cols.take q)
    have hnl2 : (A ++ t.cols.take q).length ≤ 100000 := by rw [List.length_append, List.length_take]; omega
    (refine gGo ?_; intros)
    refine boolRes_split (fun hb => ?_) (fun hb => ?_) <;> conv => whnf
    · have hql : q < t.cols.length := by omega
      have hgq := colRows_get hql
      have hsn2 : nilW (A ++ t.cols.take (q + 1)) = nilW (A ++ t.cols.take q) ++ [[.str (t.cols[q]).name, .nils]] := by
        rw [List.take_succ_eq_append_getElem hql, ← List.append_assoc, nilW_app]; rfl
      generalize nilW (A ++ t.cols.take q) = W0 at *
      (refine gGo ?_; intros)
      refine rowAt_of (by simpa using hgq) ?_
      conv => whnf
      (refine gGo ?_; intros)
      refine ⟨⟨rowsSz_cons rfl rowsSz_nil, rfl⟩, fitsN (n := W0.length + 1) (b := 40) (by omega) (by omega), .inl ⟨rfl, rfl, ?_⟩⟩
      conv => whnf
      (refine gGo ?_; intros)
      refine ⟨_, _, ?_, ⟨q + 1, by omega, rfl, rfl⟩, [(2, 2), (3, 3), (70, 70)], [], [], .mq (.ci 2 (.cons 3 rfl rfl (.refl _) (by rw [hsn2, List.length_append]; rfl) (.cons 70 rfl rfl (.refl _) (by rw [hsn2]; rfl) .nil)))⟩
      omega
    · have hqe : q = t.cols.length := by omega
      rw [hqe, List.take_length, ← hsn]
      (refine gGo ?_; intros)
      refine ⟨_, _, ?_, ⟨i + 1, by omega, rfl, rfl⟩, [(2, 2), (3, 3), (70, 70)], [], [], .mq (.ci 2 (.ci 3 (.ci 70 .nil)))⟩
      omega
  · have hie : i = (t0 :: ts).length := by omega
    rw [hie, List.take_length]
    (refine gGo ?_; intros)
    (refine gM ?_; conv => whnf)
    exact retH rfl (.refl _) rfl rfl rfl ⟨rfl, rfl, trivial⟩
end Go.Sx.Sp
namespace Go.Sx.Sp
open Go Go.Sx Go.Proofs
attribute [local irreducible] GoodW famL
theorem colWs_recell {H : Nat → List Blk} {cs : List Column} (hF : H 902 = famL (cs.length + 2) fun _ => .rows 2 [] (some [])) :
    ∀ (i : Nat) r1, (colWs (bare cs))[i]? = some r1 → ∃ r, (nilW cs)[i]? = some r ∧ r.length = r1.length ∧ ∀ (j : Nat) v1, r1[j]? = some v1 → ∃ v, r[j]? = some v ∧ NilAs H v v1 ∧ ∀ l, some [902] = some l → ∀ s ∈ v1.sites, s ∈ l := by
  intro i r1 hi
  have hlt := (List.getElem?_eq_some_iff.1 hi).1
  rw [colWs_len] at hlt
  have hlt2 : i < cs.length := by simpa [bare] using hlt
  rw [colWs_get hlt] at hi
  cases hi
  refine ⟨[.str cs[i].name, .nils], by simp [nilW, hlt2], rfl, fun j v1 hj => ?_⟩
  have hb : (bare cs)[i] = ⟨cs[i].name, []⟩ := by simp [bare]
  rw [hb] at hj
  match j, hj with
  | 0, hj => cases hj; exact ⟨_, rfl, .same _, fun l _ s hs => by cases hs⟩
  | 1, hj =>
    cases hj
    refine ⟨.nils, rfl, .nil .nils 902 i 2 (some []) rfl (by rw [hF, famL_get (by omega)]), fun l hl s hs => ?_⟩
    cases hl
    simpa [V.sites] using hs
  | j + 2, hj => simp [colW] at hj
theorem colF_bare (cs : List Column) : (famL (cs.length + 2) fun _ => .rows 2 [] (some [])) = famL ((bare cs).length + 2) (colF (bare cs)) := by
  rw [show (bare cs).length = cs.length by simp [bare]]
  refine famL_congr fun i _ => ?_
  unfold colF bare
  rw [List.getElem?_map]
  cases cs[i]? <;> rfl
theorem colWs_lent {H : Nat → List Blk} {bo : List Nat} {C : List Column} {n : Nat} {ks : Option (List Nat)} (hb : memB 902 bo = true) (hn : C.length ≤ n) (hF : H 902 = famL n (colF C)) : BLent H bo (.rows 2 (colWs C) ks) (.rows 2 (colRows C) (some [])) := by
  refine .rowsF _ _ _ _ (by rw [colWs_len, colRows_len]) fun i r1 hi => ?_
  have hlt := (List.getElem?_eq_some_iff.1 hi).1
  rw [colRows_len] at hlt
  rw [colRows_get hlt] at hi
  cases hi
  refine ⟨_, colWs_get hlt, rfl, fun j v1 hj => ?_⟩
  match j, hj with
  | 0, hj => cases hj; exact ⟨_, rfl, .refl _, rfl, rfl⟩
  | 1, hj =>
    cases hj
    refine ⟨_, rfl, ?_, rfl, rfl⟩
    have h1 : (H 902)[i]? = some (.rows 2 (cellRows C[i].cells) (some [])) := by rw [hF, famL_get (by omega), colF_get hlt]
    have := Lent.oslF (H := H) (bo := bo) 902 i 0 C[i].cells.length C[i].cells.length 2 (cellRows C[i].cells) (some []) hb h1 (cellRows_len _).symm (.inl rfl)
    rw [List.drop_zero, List.take_of_length_le (by rw [cellRows_len]; exact Nat.le_refl _)] at this
    exact this
  | j + 2, hj => simp [Column.row] at hj
def mixC (ts : List Table) (R : List (List Nat)) (r : List Nat) (i : Nat) : List Column := allC (fun k q => togF ts (if k < i then R ++ [r] else R) k q) ts
theorem mixC_zero (ts : List Table) (R : List (List Nat)) (r : List Nat) : mixC ts R r 0 = togC ts R := by
  unfold mixC togC
  exact allC_congr fun i t _ q _ => by rw [if_neg (by omega)]
theorem mixC_all (ts : List Table) (R : List (List Nat)) (r : List Nat) {n : Nat} (hn : ts.length ≤ n) : mixC ts R r n = togC ts (R ++ [r]) := by
  unfold mixC togC
  exact allC_congr fun i t hi q _ => by
    have := (List.getElem?_eq_some_iff.1 hi).1
    rw [if_pos (by omega)]
theorem mixC_len (ts : List Table) (R : List (List Nat)) (r : List Nat) (i : Nat) : (mixC ts R r i).length = atN ts ts.length := allC_len _ _
theorem mixC_cells {ts : List Table} {R : List (List Nat)} {r : List Nat} {i : Nat} {c : Column} (h : c ∈ mixC ts R r i) : c.cells.length ≤ R.length + 1 := by
  obtain ⟨k, q, t, _, _, h3⟩ := allF_mem h
  rw [h3]
  unfold togF
  rw [List.length_map]
  split
  · rw [List.length_append]; exact Nat.le_refl _
  · omega
theorem mixC_step {ts : List Table} {R : List (List Nat)} {r : List Nat} {i : Nat} {t : Table} (hi : ts[i]? = some t) : putC (mixC ts R r i) (atN ts i) t (r.getD i 0) t.cols.length = mixC ts R r (i + 1) := by
  unfold mixC
  rw [put_all _ hi]
  refine allC_congr fun k t' hk q _ => ?_
  by_cases e : k = i
  · subst e
    rw [hi] at hk
    cases hk
    rw [if_pos rfl, if_neg (by omega), if_pos (by omega)]
    unfold togF
    rw [List.map_append, List.getD_eq_getElem?_getD (l := ts), hi]
    rfl
  · rw [if_neg e]
    by_cases h1 : k < i
    · rw [if_pos h1, if_pos (by omega)]
    · rw [if_neg h1, if_neg (by omega)]
theorem putM_spec (id : Int) (name : Str) {ts : List Table} {R : List (List Nat)} {r : List Nat} {i : Nat} {t : Table} (hi : ts[i]? = some t) (hlen : atN ts ts.length ≤ 4096) (hR : R.length ≤ 4096) (hv : validB t = true) (hr : r.getD i 0 < rowsN t) :
    SpecF Tryd.prog 21 [.bp 900 0, .int .i64 (atN ts i : Nat), .agg t.row, .int .i64 (r.getD i 0 : Nat)] (tabH id name (mixC ts R r i)) (.int .i64 (atN ts (i + 1) : Nat)) (tabH id name (mixC ts R r (i + 1))) := by
  have hvr := validB_rows hv
  have h1 := atN_succ hi
  have h2 : atN ts (i + 1) ≤ atN ts ts.length := atN_le _ _
  have sp := put_spec id name (mixC ts R r i) (atN ts i) t (r.getD i 0) (by rw [mixC_len]; exact hlen) (by rw [mixC_len]; omega) (by omega) (fun c hc => by have := hvr.2 c hc; omega) (fun c hc => by have := mixC_cells hc; omega)
  rw [mixC_step hi, ← h1] at sp
  exact sp
def fitL (a : Table) (i : Nat) (b : Table) (j : Nat) (x : Nat) : List Nat := (List.range (rowsN b)).filter fun y => fitC (cellT a i x) (cellT b j y)
def twoN (a : Table) (i : Nat) (b : Table) (j : Nat) (n : Nat) : List (List Nat) := (List.range n).flatMap fun x => (fitL a i b j x).map fun y => [x, y]
def twoL (a : Table) (i : Nat) (b : Table) (j : Nat) : List (List Nat) := twoN a i b j (rowsN a)
theorem twoN_succ (a : Table) (i : Nat) (b : Table) (j n : Nat) : twoN a i b j (n + 1) = twoN a i b j n ++ (fitL a i b j n).map fun y => [n, y] := by
  unfold twoN
  rw [List.range_succ, List.flatMap_append]; simp
theorem fitL_null {a : Table} {i : Nat} {b : Table} {j x : Nat} (h : (cellT a i x).null = true) : fitL a i b j x = [] := by
  unfold fitL
  rw [List.filter_eq_nil_iff]
  intro y _
  simp [fitC, h]
theorem fitL_len (a : Table) (i : Nat) (b : Table) (j x : Nat) : (fitL a i b j x).length ≤ rowsN b := by
  unfold fitL
  refine Nat.le_trans (List.length_filter_le _ _) ?_
  rw [List.length_range]; exact Nat.le_refl _
theorem twoN_len (a : Table) (i : Nat) (b : Table) (j : Nat) : ∀ n, (twoN a i b j n).length ≤ n * rowsN b
  | 0 => by simp [twoN]
  | n + 1 => by
    rw [twoN_succ, List.length_append, List.length_map, Nat.succ_mul]
    have := twoN_len a i b j n
    have := fitL_len a i b j n
    omega
theorem cellD_T {t : Table} {k : Nat} (hk : k < t.cols.length) (y : Nat) : cellD (t.cols[k]).cells y = cellT t k y := by
  unfold cellD cellT
  rw [List.getD_eq_getElem?_getD (l := t.cols), List.getElem?_eq_getElem hk]; rfl
theorem fitL_look {a : Table} {i : Nat} {b : Table} {j x : Nat} (hj : j < b.cols.length) (hn : (b.cols[j]).cells.length = rowsN b) (h : (cellT a i x).null = false) : lookB (bunC (b.cols[j]).cells (b.cols[j]).cells.length) (cellT a i x).text = fitL a i b j x := by
  unfold bunC fitL
  rw [bunS_look, hn]
  refine List.filter_congr fun y _ => ?_
  rw [cellD_T hj]
  unfold fitC
  rw [h]
  have e : decide ((cellT b j y).text = (cellT a i x).text) = decide ((cellT a i x).text = (cellT b j y).text) := decide_eq_decide.2 eq_comm
  rw [e]; simp
def twoE (a : Table) (i : Int) (b : Table) (j : Int) : Table × Int :=
  if validB a = true ∧ validB b = true then
    (if 0 ≤ i ∧ i < a.cols.length ∧ 0 ≤ j ∧ j < b.cols.length then
      (if a.cols.length + b.cols.length ≤ 64 ∧ (twoL a i.toNat b j.toNat).length ≤ 4096 then (togT [a, b] (twoL a i.toNat b j.toNat), 0) else (Table.zero, 3))
    else (Table.zero, 2))
  else (Table.zero, 1)
set_option maxHeartbeats 16000000 in
theorem two_ok (a : Table) (i : Nat) (b : Table) (j : Nat) (hva : validB a = true) (hvb : validB b = true) (hi : i < a.cols.length) (hj : j < b.cols.length) :
    Spec Tryd.prog 11 [.agg a.row, .int .i64 (i : Nat), .agg b.row, .int .i64 (j : Nat)] [] (.tup [.agg (if a.cols.length + b.cols.length ≤ 64 ∧ (twoL a i b j).length ≤ 4096 then togT [a, b] (twoL a i b j) else Table.zero).row, .int .i64 (if a.cols.length + b.cols.length ≤ 64 ∧ (twoL a i b j).length ≤ 4096 then 0 else 3)]) [] := by
  have sp1 := valid_spec a
  have sp2 := valid_spec b
  rw [hva] at sp1
  rw [hvb] at sp2
  have hra := validB_rows hva
  have hrb := validB_rows hvb
  have hca := validB_cols hva
  have hcb := validB_cols hvb
  have hal := colRows_len a.cols
  have hbl := colRows_len b.cols
  have hai := hra.2 _ (List.getElem_mem hi)
  have hbj := hrb.2 _ (List.getElem_mem hj)
  have sp3 := rowsOf_spec b.cols[j] (by omega)
  have hgb := colRows_get hj
  have hga := colRows_get hi
  have hdl := fun s => datE_look (bunC (b.cols[j]).cells (b.cols[j]).cells.length) s
  have hlk := fun x h => fitL_look (a := a) (i := i) (x := x) hj hbj h
  have hcl := cellRows_len (a.cols[i]).cells
  have hcg : ∀ x, x < rowsN a → (cellRows (a.cols[i]).cells)[x]? = some (cellT a i x).row := fun x hx => by
    rw [cellRows_get (by omega)]
    have := cellD_T hi x
    unfold cellD at this
    rw [← this, List.getD_eq_getElem?_getD, List.getElem?_eq_getElem (by omega)]; rfl
  generalize bunC (b.cols[j]).cells (b.cols[j]).cells.length = BN at *
  generalize a.cols[i] = ca at *
  generalize b.cols[j] = cb at *
  obtain ⟨D, hD⟩ : ∃ D, D = mkD (datE BN) := ⟨_, rfl⟩
  rw [← hD] at sp3
  have hNb := fun n => twoN_len a i b j n
  have hN0 : twoN a i b j 0 = [] := rfl
  refine gEn env Tryd.func11 fun Γ hN hK hML => ?_
  (refine gGo ?_; intros)
  (refine gPC (sp1) ?_; conv => whnf)
  (refine gGo ?_; intros)
  (refine gPC (sp2) ?_; conv => whnf)
  (refine gGo ?_; intros)
  refine rowAt_of (by simpa using hgb) ?_
  conv => whnf
  (refine gGo ?_; intros)
  (refine gPC (sp3) ?_; conv => whnf)
  (refine gGo ?_; intros)
  refine rowAt_of (by simpa using hga) ?_
  conv => whnf
  (refine gGo ?_; intros)
  refine W.loopG (fun m st => ∃ x : Nat, x ≤ rowsN a ∧ m = rowsN a - x ∧ st = ⟨[(1, .int .i64 (i : Nat)), (3, .int .i64 (j : Nat)), (4, .bp 4 0), (6, .bp 6 0), (8, .bp 8 0), (10, .dmap D), (62, .sl (cellRows ca.cells) false), (63, .int .i64 (cellRows ca.cells).length), (11, .int .i64 ((twoN a i b j x).length : Nat)), (64, .int .i64 x)], [(4, [.rows 3 [a.row] none]), (6, [.rows 3 [b.row] none]), (8, [.rows 3 [[.int .i64 0, .str [], .nils]] none])], [4, 6, 8]⟩)
    (rowsN a) _ ⟨0, by omega, by omega, rfl⟩ ⟨[(4, 4), (6, 6), (8, 8)], [], [], .mq (.ci 4 (.ci 6 (.ci 8 .nil)))⟩ ?_
  rintro m st ⟨x, hx, rfl, rfl⟩
  have hNx := hNb x
  (refine gGo ?_; intros)
  refine boolRes_split (fun hb => ?_) (fun hb => ?_) <;> conv => whnf
  · have hxl : x < rowsN a := by omega
    have hg := hcg x hxl
    have hNs := twoN_succ a i b j x
    have hfn := fitL_null (a := a) (i := i) (b := b) (j := j) (x := x)
    have hlx := hlk x
    have hfl := fitL_len a i b j x
    have hb2 : x * rowsN b ≤ 4096 * 4096 := Nat.mul_le_mul (by omega) hrb.1
    generalize twoN a i b j x = R0 at *
    generalize fitL a i b j x = F at *
    generalize cellT a i x = c at *
    (refine gGo ?_; intros)
    refine rowAt_of (by simpa using hg) ?_
    conv => whnf
    (refine gGo ?_; intros)
    cases hnull : c.null with
    | true =>
      rw [hfn hnull] at hNs
      conv => whnf
      (refine gGo ?_; intros)
      refine ⟨_, _, ?_, ⟨x + 1, by omega, rfl, rfl⟩, [(4, 4), (6, 6), (8, 8)], [], [], LeG.mk' rfl rfl rfl (by rw [hNs]; simp only [List.map_nil, List.append_nil]; exact (by repeat' (first | exact trivial | exact ⟨_, .refl _, rfl⟩ | apply And.intro))) (.ci 4 (.ci 6 (.ci 8 .nil))) rfl rfl (by rw [hK]; rfl)⟩
      omega
    | false =>
      have hlx := hlx hnull
      obtain ⟨r, hr1, hr2⟩ := hdl c.text
      have hFl := natRows_len F
      conv => whnf
      (refine gGo ?_; intros)
      refine zok_intro (by kernel_rfl) ?_
      conv => whnf
      refine ⟨_, hD, _, hr1, ?_⟩
      rcases hr2 with ⟨hix, rfl⟩ | ⟨jj, hix, rfl⟩
      · rw [lookB_none hix] at hlx
        subst hlx
        conv => whnf
        (refine gGo ?_; intros)
        refine ⟨_, _, ?_, ⟨x + 1, by omega, rfl, rfl⟩, [(4, 4), (6, 6), (8, 8)], [], [], LeG.mk' rfl rfl rfl (by rw [hNs]; simp only [List.map_nil, List.append_nil, Int.add_zero]; exact (by repeat' (first | exact trivial | exact ⟨_, .refl _, rfl⟩ | apply And.intro))) (.ci 4 (.ci 6 (.ci 8 .nil))) rfl rfl (by rw [hK]; rfl)⟩
        omega
      · rw [hlx]
        conv => whnf
        (refine gGo ?_; intros)
        refine ⟨_, _, ?_, ⟨x + 1, by omega, rfl, rfl⟩, [(4, 4), (6, 6), (8, 8)], [], [], LeG.mk' rfl rfl rfl (by rw [hNs, List.length_append, List.length_map, ← hFl, Int.natCast_add]; exact (by repeat' (first | exact trivial | exact ⟨_, .refl _, rfl⟩ | apply And.intro))) (.ci 4 (.ci 6 (.ci 8 .nil))) rfl rfl (by rw [hK]; rfl)⟩
        omega
  · have hxe : x = rowsN a := by omega
    rw [hxe]
    rw [hxe] at hNx
    have hT : twoN a i b j (rowsN a) = twoL a i b j := rfl
    rw [hT]
    have hb2 : rowsN a * rowsN b ≤ 4096 * 4096 := Nat.mul_le_mul hra.1 hrb.1
    rw [hT] at hNx
    by_cases hlim : a.cols.length + b.cols.length ≤ 64 ∧ (twoL a i b j).length ≤ 4096
    · rw [if_pos hlim, if_pos hlim]
      obtain ⟨hl1, hl2⟩ := hlim
      have sp4 := empty_spec a [b] (by show 1 ≤ 100; decide) (fun t ht => by
        rcases List.mem_cons.1 ht with rfl | ht
        · omega
        · rw [List.mem_singleton.1 ht]; omega)
      have hCS : ((a :: [b]).flatMap Table.cols).length = a.cols.length + b.cols.length := by simp
      have hg0 : togC [a, b] [] = bare ((a :: [b]).flatMap Table.cols) := togC_nil _
      have hat : atN [a, b] [a, b].length = a.cols.length + b.cols.length := by simp [atN]
      have hcs2 : (bare ((a :: [b]).flatMap Table.cols)).length = ((a :: [b]).flatMap Table.cols).length := by simp [bare]
      generalize (a :: [b]).flatMap Table.cols = CS at *
      have hnl := nilW_len CS
      (refine gGo ?_; intros)
      (refine gCA [] [(70, 70)] [] (sp4) ?_; conv => whnf)
      (refine gGo ?_; intros)
      refine rowAt_of (by simpa using hga) ?_
      conv => whnf
      (refine gGo ?_; intros)
      refine W.ref (Ref.reserve 902 (CS.length + 2) 2 rfl) ?_
      refine W.leG (mp := [(4, 4), (6, 6), (8, 8), (14, 900), (70, 901), (902, 902)]) (bo := []) (st' := ⟨[(1, .int .i64 (i : Nat)), (3, .int .i64 (j : Nat)), (4, .bp 4 0), (6, .bp 6 0), (8, .bp 8 0), (10, .dmap D), (14, .bp 900 0), (101, .sl (cellRows ca.cells) false), (102, .int .i64 (cellRows ca.cells).length), (103, .int .i64 (0 : Nat))], [(4, [.rows 3 [a.row] none]), (6, [.rows 3 [b.row] none]), (8, [.rows 3 [[.int .i64 0, .str [], .nils]] none]), (900, [.rows 3 [[.int .i64 a.id, .str a.name, .osl 901 0 0 (nilW CS).length (nilW CS).length]] none]), (901, [.rows 2 (nilW CS) (some [])]), (902, famL (CS.length + 2) fun _ => .rows 2 [] (some []))], [4, 6, 8, 900, 901, 902]⟩)
        (LeG.mq (.ci 4 (.ci 6 (.ci 8 (.ci 14 (.ci 70 (.fam 902 rfl rfl (famL_famB fun _ _ => rfl) .nil))))))) ?_
      refine W.ref (Ref.recell 901 (colWs (bare CS)) (some [902]) rfl (by rw [colWs_len, nilW_len, hcs2]) (colWs_recell rfl) (fun l hl q hq => by cases hl; simp at hq; subst hq; rfl)) ?_
      have hcw := colWs_len (bare CS)
      rw [colF_bare, show (nilW CS).length = (colWs (bare CS)).length by omega]
      rw [← hg0]
      clear hcw hcs2 hnl hCS hg0 sp4
      refine W.loopG (fun m st => ∃ x : Nat, x ≤ rowsN a ∧ m = rowsN a - x ∧ st = ⟨[(1, .int .i64 (i : Nat)), (3, .int .i64 (j : Nat)), (4, .bp 4 0), (6, .bp 6 0), (8, .bp 8 0), (10, .dmap D), (14, .bp 900 0), (101, .sl (cellRows ca.cells) false), (102, .int .i64 (cellRows ca.cells).length), (103, .int .i64 x)], [(4, [.rows 3 [a.row] none]), (6, [.rows 3 [b.row] none]), (8, [.rows 3 [[.int .i64 0, .str [], .nils]] none]), (900, [.rows 3 [[.int .i64 a.id, .str a.name, .osl 901 0 0 (colWs (togC [a, b] (twoN a i b j x))).length (colWs (togC [a, b] (twoN a i b j x))).length]] none]), (901, [.rows 2 (colWs (togC [a, b] (twoN a i b j x))) (some [902])]), (902, famL ((togC [a, b] (twoN a i b j x)).length + 2) (colF (togC [a, b] (twoN a i b j x))))], [4, 6, 8, 900, 901, 902]⟩)
        (rowsN a) _ ⟨0, by omega, by omega, rfl⟩ ⟨[(4, 4), (6, 6), (8, 8), (900, 900), (901, 901), (902, 902)], [], [], .mq (.ci 4 (.ci 6 (.ci 8 (.ci 900 (.ci 901 (.fam 902 rfl rfl (colF_fam _ _) .nil))))))⟩ ?_
      clear hNx hx hb
      rintro m st ⟨x, hx, rfl, rfl⟩
      (refine gGo ?_; intros)
      refine boolRes_split (fun hb => ?_) (fun hb => ?_) <;> conv => whnf
      · have hxl : x < rowsN a := by omega
        have hg := hcg x hxl
        have hNs := twoN_succ a i b j x
        have hfn := fitL_null (a := a) (i := i) (b := b) (j := j) (x := x)
        have hlx := hlk x
        have hfl := fitL_len a i b j x
        have hfm : ∀ y ∈ fitL a i b j x, y < rowsN b := fun y hy => by
          unfold fitL at hy
          exact List.mem_range.1 (List.mem_filter.1 hy).1
        have hNl : (twoN a i b j x).length + (fitL a i b j x).length ≤ 4096 := by
          have h1 : ∀ d, (twoN a i b j (x + 1)).length ≤ (twoN a i b j (x + 1 + d)).length := fun d => by
            induction d with
            | zero => exact Nat.le_refl _
            | succ d ih => rw [show x + 1 + (d + 1) = (x + 1 + d) + 1 by omega, twoN_succ a i b j (x + 1 + d), List.length_append]; omega
          have h2 := h1 (rowsN a - (x + 1))
          rw [show x + 1 + (rowsN a - (x + 1)) = rowsN a by omega, hT, hNs, List.length_append, List.length_map] at h2
          omega
        generalize twoN a i b j x = R0 at *
        generalize fitL a i b j x = F at *
        generalize cellT a i x = c at *
        (refine gGo ?_; intros)
        refine rowAt_of (by simpa using hg) ?_
        conv => whnf
        (refine gGo ?_; intros)
        cases hnull : c.null with
        | true =>
          rw [hfn hnull, List.map_nil, List.append_nil] at hNs
          conv => whnf
          (refine gGo ?_; intros)
          refine ⟨_, _, ?_, ⟨x + 1, by omega, rfl, rfl⟩, [(4, 4), (6, 6), (8, 8), (900, 900), (901, 901), (902, 902)], [], [], .mq (by rw [hNs]; exact (.ci 4 (.ci 6 (.ci 8 (.ci 900 (.ci 901 (.fam 902 rfl rfl (colF_fam _ _) .nil)))))))⟩
          omega
        | false =>
          have hlx := hlx hnull
          obtain ⟨r, hr1, hr2⟩ := hdl c.text
          have hFl := natRows_len F
          conv => whnf
          (refine gGo ?_; intros)
          refine zok_intro (by kernel_rfl) ?_
          conv => whnf
          refine ⟨_, hD, _, hr1, ?_⟩
          rcases hr2 with ⟨hix, rfl⟩ | ⟨jj, hix, rfl⟩
          · rw [lookB_none hix] at hlx
            have hF5 : F.length ≤ 5 := by rw [← hlx]; decide
            conv => whnf
            (refine gGo ?_; intros)
            refine W.leG (mp := [(4, 4), (6, 6), (8, 8), (900, 900), (901, 901), (902, 902)]) (bo := []) (st' := ⟨[(1, .int .i64 (i : Nat)), (3, .int .i64 (j : Nat)), (4, .bp 4 0), (6, .bp 6 0), (8, .bp 8 0), (10, .dmap D), (14, .bp 900 0), (101, .sl (cellRows ca.cells) false), (102, .int .i64 (cellRows ca.cells).length), (15, .int .i64 x), (103, .int .i64 x), (113, .sl (natRows F) false), (114, .int .i64 (natRows F).length), (115, .int .i64 (0 : Nat))], [(4, [.rows 3 [a.row] none]), (6, [.rows 3 [b.row] none]), (8, [.rows 3 [[.int .i64 0, .str [], .nils]] none]), (900, [.rows 3 [[.int .i64 a.id, .str a.name, .osl 901 0 0 (colWs (togC [a, b] R0)).length (colWs (togC [a, b] R0)).length]] none]), (901, [.rows 2 (colWs (togC [a, b] R0)) (some [902])]), (902, famL ((togC [a, b] R0).length + 2) (colF (togC [a, b] R0)))], [4, 6, 8, 900, 901, 902]⟩)
              (LeG.mk' rfl rfl rfl (by rw [← hlx]; repeat' (first | exact trivial | exact ⟨_, .refl _, rfl⟩ | exact ⟨_, .norm _, rfl⟩ | apply And.intro)) (.ci 4 (.ci 6 (.ci 8 (.ci 900 (.ci 901 (.fam 902 rfl rfl (colF_fam _ _) .nil)))))) rfl rfl (by rw [hK]; rfl)) ?_
            obtain ⟨Q, hQ⟩ : ∃ Q : Nat → List (List Nat), Q = fun q => R0 ++ (F.take q).map fun y => [x, y] := ⟨_, rfl⟩
            have hQ0 : Q 0 = R0 := by rw [hQ]; simp
            have hQs : ∀ (q : Nat) (hq : q < F.length), Q (q + 1) = Q q ++ [[x, F[q]]] := fun q hq => by
              rw [hQ]; simp only [List.take_succ_eq_append_getElem hq, List.map_append, List.append_assoc]; rfl
            have hQe : Q F.length = R0 ++ F.map fun y => [x, y] := by rw [hQ]; simp
            have hQl : ∀ q, q ≤ F.length → (Q q).length ≤ 4096 := fun q hq => by
              rw [hQ]; simp only [List.length_append, List.length_map, List.length_take]; omega
            rw [← hQe] at hNs
            rw [show R0 = Q 0 from hQ0.symm]
            refine W.loopG (fun m st => ∃ q : Nat, q ≤ F.length ∧ m = F.length - q ∧ st = ⟨[(1, .int .i64 (i : Nat)), (3, .int .i64 (j : Nat)), (4, .bp 4 0), (6, .bp 6 0), (8, .bp 8 0), (10, .dmap D), (14, .bp 900 0), (101, .sl (cellRows ca.cells) false), (102, .int .i64 (cellRows ca.cells).length), (15, .int .i64 x), (103, .int .i64 x), (113, .sl (natRows F) false), (114, .int .i64 (natRows F).length), (115, .int .i64 q)], [(4, [.rows 3 [a.row] none]), (6, [.rows 3 [b.row] none]), (8, [.rows 3 [[.int .i64 0, .str [], .nils]] none]), (900, [.rows 3 [[.int .i64 a.id, .str a.name, .osl 901 0 0 (colWs (togC [a, b] (Q q))).length (colWs (togC [a, b] (Q q))).length]] none]), (901, [.rows 2 (colWs (togC [a, b] (Q q))) (some [902])]), (902, famL ((togC [a, b] (Q q)).length + 2) (colF (togC [a, b] (Q q))))], [4, 6, 8, 900, 901, 902]⟩)
              F.length _ ⟨0, by omega, by omega, rfl⟩ ⟨[(4, 4), (6, 6), (8, 8), (900, 900), (901, 901), (902, 902)], [], [], .mq (.ci 4 (.ci 6 (.ci 8 (.ci 900 (.ci 901 (.fam 902 rfl rfl (colF_fam _ _) .nil))))))⟩ ?_
            clear hQ hQ0 hQe
            rintro m st ⟨q, hq, rfl, rfl⟩
            (refine gGo ?_; intros)
            refine boolRes_split (fun hb => ?_) (fun hb => ?_) <;> conv => whnf
            · have hql : q < F.length := by omega
              have hyg := natRows_get hql
              have hym := hfm _ (List.getElem_mem hql)
              have hqs := hQs q hql
              have hql4 := hQl q hq
              generalize F[q] = y at *
              have sp5 := putM_spec a.id a.name (ts := [a, b]) (R := Q q) (r := [x, y]) (i := 0) (t := a) rfl (by omega) hql4 hva hxl
              have sp6 := putM_spec a.id a.name (ts := [a, b]) (R := Q q) (r := [x, y]) (i := 1) (t := b) rfl (by omega) hql4 hvb hym
              rw [mixC_zero, show ((atN [a, b] 0 : Nat) : Int) = 0 from rfl, show ([x, y].getD 0 0) = x from rfl] at sp5
              rw [mixC_all [a, b] (Q q) [x, y] (n := 1 + 1) (Nat.le_refl _), ← hqs, show ([x, y].getD 1 0) = y from rfl] at sp6
              change SpecF _ _ _ _ (.int .i64 (atN [a, b] 1 : Nat)) (tabH a.id a.name (mixC [a, b] (Q q) [x, y] 1)) at sp5
              generalize mixC [a, b] (Q q) [x, y] 1 = C1 at *
              generalize atN [a, b] 1 = a1 at *
              (refine gGo ?_; intros)
              refine rowAt_of (by simpa using hyg) ?_
              conv => whnf
              (refine gGo ?_; intros)
              (refine gCF (sp5) (tabH_within _ _ _) (tabH_ne _ _ _) ?_; conv => whnf)
              (refine gGo ?_; intros)
              (refine gCF (sp6) (tabH_within _ _ _) (tabH_ne _ _ _) ?_; conv => whnf)
              (refine gGo ?_; intros)
              refine ⟨_, _, ?_, ⟨q + 1, by omega, rfl, rfl⟩, [(4, 4), (6, 6), (8, 8), (900, 900), (901, 901), (902, 902)], [], [], .mq (.ci 4 (.ci 6 (.ci 8 (.ci 900 (.ci 901 (.fam 902 rfl rfl (colF_fam _ _) .nil))))))⟩
              omega
            · have hqe : q = F.length := by omega
              rw [hqe]
              (refine gGo ?_; intros)
              refine ⟨_, _, ?_, ⟨x + 1, by omega, rfl, rfl⟩, [(4, 4), (6, 6), (8, 8), (900, 900), (901, 901), (902, 902)], [], [], .mq (by rw [hNs]; exact (.ci 4 (.ci 6 (.ci 8 (.ci 900 (.ci 901 (.fam 902 rfl rfl (colF_fam _ _) .nil)))))))⟩
              omega
          · rw [hlx]
            conv => whnf
            (refine gGo ?_; intros)
            obtain ⟨Q, hQ⟩ : ∃ Q : Nat → List (List Nat), Q = fun q => R0 ++ (F.take q).map fun y => [x, y] := ⟨_, rfl⟩
            have hQ0 : Q 0 = R0 := by rw [hQ]; simp
            have hQs : ∀ (q : Nat) (hq : q < F.length), Q (q + 1) = Q q ++ [[x, F[q]]] := fun q hq => by
              rw [hQ]; simp only [List.take_succ_eq_append_getElem hq, List.map_append, List.append_assoc]; rfl
            have hQe : Q F.length = R0 ++ F.map fun y => [x, y] := by rw [hQ]; simp
            have hQl : ∀ q, q ≤ F.length → (Q q).length ≤ 4096 := fun q hq => by
              rw [hQ]; simp only [List.length_append, List.length_map, List.length_take]; omega
            rw [← hQe] at hNs
            rw [show R0 = Q 0 from hQ0.symm]
            refine W.loopG (fun m st => ∃ q : Nat, q ≤ F.length ∧ m = F.length - q ∧ st = ⟨[(1, .int .i64 (i : Nat)), (3, .int .i64 (j : Nat)), (4, .bp 4 0), (6, .bp 6 0), (8, .bp 8 0), (10, .dmap D), (14, .bp 900 0), (101, .sl (cellRows ca.cells) false), (102, .int .i64 (cellRows ca.cells).length), (15, .int .i64 x), (103, .int .i64 x), (113, .sl (natRows F) false), (114, .int .i64 (natRows F).length), (115, .int .i64 q)], [(4, [.rows 3 [a.row] none]), (6, [.rows 3 [b.row] none]), (8, [.rows 3 [[.int .i64 0, .str [], .nils]] none]), (900, [.rows 3 [[.int .i64 a.id, .str a.name, .osl 901 0 0 (colWs (togC [a, b] (Q q))).length (colWs (togC [a, b] (Q q))).length]] none]), (901, [.rows 2 (colWs (togC [a, b] (Q q))) (some [902])]), (902, famL ((togC [a, b] (Q q)).length + 2) (colF (togC [a, b] (Q q))))], [4, 6, 8, 900, 901, 902]⟩)
              F.length _ ⟨0, by omega, by omega, rfl⟩ ⟨[(4, 4), (6, 6), (8, 8), (900, 900), (901, 901), (902, 902)], [], [], .mq (.ci 4 (.ci 6 (.ci 8 (.ci 900 (.ci 901 (.fam 902 rfl rfl (colF_fam _ _) .nil))))))⟩ ?_
            clear hQ hQ0 hQe
            rintro m st ⟨q, hq, rfl, rfl⟩
            (refine gGo ?_; intros)
            refine boolRes_split (fun hb => ?_) (fun hb => ?_) <;> conv => whnf
            · have hql : q < F.length := by omega
              have hyg := natRows_get hql
              have hym := hfm _ (List.getElem_mem hql)
              have hqs := hQs q hql
              have hql4 := hQl q hq
              generalize F[q] = y at *
              have sp5 := putM_spec a.id a.name (ts := [a, b]) (R := Q q) (r := [x, y]) (i := 0) (t := a) rfl (by omega) hql4 hva hxl
              have sp6 := putM_spec a.id a.name (ts := [a, b]) (R := Q q) (r := [x, y]) (i := 1) (t := b) rfl (by omega) hql4 hvb hym
              rw [mixC_zero, show ((atN [a, b] 0 : Nat) : Int) = 0 from rfl, show ([x, y].getD 0 0) = x from rfl] at sp5
              rw [mixC_all [a, b] (Q q) [x, y] (n := 1 + 1) (Nat.le_refl _), ← hqs, show ([x, y].getD 1 0) = y from rfl] at sp6
              change SpecF _ _ _ _ (.int .i64 (atN [a, b] 1 : Nat)) (tabH a.id a.name (mixC [a, b] (Q q) [x, y] 1)) at sp5
              generalize mixC [a, b] (Q q) [x, y] 1 = C1 at *
              generalize atN [a, b] 1 = a1 at *
              (refine gGo ?_; intros)
              refine rowAt_of (by simpa using hyg) ?_
              conv => whnf
              (refine gGo ?_; intros)
              (refine gCF (sp5) (tabH_within _ _ _) (tabH_ne _ _ _) ?_; conv => whnf)
              (refine gGo ?_; intros)
              (refine gCF (sp6) (tabH_within _ _ _) (tabH_ne _ _ _) ?_; conv => whnf)
              (refine gGo ?_; intros)
              refine ⟨_, _, ?_, ⟨q + 1, by omega, rfl, rfl⟩, [(4, 4), (6, 6), (8, 8), (900, 900), (901, 901), (902, 902)], [], [], .mq (.ci 4 (.ci 6 (.ci 8 (.ci 900 (.ci 901 (.fam 902 rfl rfl (colF_fam _ _) .nil))))))⟩
              omega
            · have hqe : q = F.length := by omega
              rw [hqe]
              (refine gGo ?_; intros)
              refine ⟨_, _, ?_, ⟨x + 1, by omega, rfl, rfl⟩, [(4, 4), (6, 6), (8, 8), (900, 900), (901, 901), (902, 902)], [], [], .mq (by rw [hNs]; exact (.ci 4 (.ci 6 (.ci 8 (.ci 900 (.ci 901 (.fam 902 rfl rfl (colF_fam _ _) .nil)))))))⟩
              omega
      · have hxe : x = rowsN a := by omega
        rw [hxe, hT]
        refine gA ?_
        refine gD rfl ?_
        refine gG ?_
        conv => whnf
        have hcl2 : (colWs (togC [a, b] (twoL a i b j))).length = (colRows (togC [a, b] (twoL a i b j))).length := by rw [colWs_len, colRows_len]
        have hrw : (togT [a, b] (twoL a i b j)).row = [.int .i64 a.id, .str a.name, .sl (colRows (togC [a, b] (twoL a i b j))) false] := rfl
        rw [hrw]
        generalize togC [a, b] (twoL a i b j) = C at *
        refine W.leG (mp := [(8, 8), (900, 900), (901, 901)]) (bo := [902]) (st' := ⟨[(8, .bp 8 0), (14, .bp 900 0)], [(8, [.rows 3 [[.int .i64 0, .str [], .nils]] none]), (900, [.rows 3 [[.int .i64 a.id, .str a.name, .osl 901 0 0 (colWs C).length (colWs C).length]] none]), (901, [.rows 2 (colRows C) (some [])])], [8, 900, 901]⟩)
          (LeG.mq (.ci 8 (.ci 900 (.cons 901 (b1 := .rows 2 (colRows C) (some [])) rfl rfl (colWs_lent rfl (by omega) rfl) rfl .nil)))) ?_
        refine W.leG (mp := [(8, 8), (900, 900)]) (bo := [901]) (st' := ⟨[(8, .bp 8 0), (14, .bp 900 0)], [(8, [.rows 3 [[.int .i64 0, .str [], .nils]] none]), (900, [.rows 3 [[.int .i64 a.id, .str a.name, .sl (colRows C) false]] none])], [8, 900]⟩)
          (LeG.mq (.ci 8 (.cons 900 (b1 := .rows 3 [[.int .i64 a.id, .str a.name, .sl (colRows C) false]] none) rfl rfl (.rows _ _ _ (by repeat' (first | exact trivial | exact ⟨Lent.refl _, rfl⟩ | exact ⟨Lent.whole rfl rfl hcl2 rfl (.inl rfl), rfl⟩ | apply And.intro))) rfl .nil))) ?_
        (refine gGo ?_; intros)
        (refine gM ?_; conv => whnf)
        exact ret0 rfl rfl rfl
    · rw [if_neg hlim, if_neg hlim]
      by_cases hl1 : a.cols.length + b.cols.length ≤ 64
      · have hl2 : ¬ (twoL a i b j).length ≤ 4096 := fun h => hlim ⟨hl1, h⟩
        (refine gGo ?_; intros)
        (refine gM ?_; conv => whnf)
        exact ret0 rfl rfl rfl
      · (refine gGo ?_; intros)
        (refine gM ?_; conv => whnf)
        exact ret0 rfl rfl rfl
end Go.Sx.Sp
namespace Go.Sx.Sp
open Go Go.Sx Go.Proofs
attribute [local irreducible] GoodW famL
set_option maxHeartbeats 8000000 in
theorem two_spec (a : Table) (i : Int) (b : Table) (j : Int) : Spec Tryd.prog 11 [.agg a.row, .int .i64 i, .agg b.row, .int .i64 j] [] (.tup [.agg (twoE a i b j).1.row, .int .i64 (twoE a i b j).2]) [] := by
  have sp1 := valid_spec a
  have sp2 := valid_spec b
  have hal := colRows_len a.cols
  have hbl := colRows_len b.cols
  unfold twoE
  cases hva : validB a with
  | false =>
    rw [hva] at sp1
    rw [if_neg (by simp)]
    refine gEn env Tryd.func11 fun Γ hN hK hML => ?_
    (refine gGo ?_; intros)
    (refine gPC (sp1) ?_; conv => whnf)
    (refine gGo ?_; intros)
    (refine gM ?_; conv => whnf)
    exact ret0 rfl rfl rfl
  | true =>
    rw [hva] at sp1
    cases hvb : validB b with
    | false =>
      rw [hvb] at sp2
      rw [if_neg (by simp)]
      refine gEn env Tryd.func11 fun Γ hN hK hML => ?_
      (refine gGo ?_; intros)
      (refine gPC (sp1) ?_; conv => whnf)
      (refine gGo ?_; intros)
      (refine gPC (sp2) ?_; conv => whnf)
      (refine gGo ?_; intros)
      (refine gM ?_; conv => whnf)
      exact ret0 rfl rfl rfl
    | true =>
      rw [if_pos ⟨rfl, rfl⟩]
      rw [hvb] at sp2
      by_cases h : 0 ≤ i ∧ i < a.cols.length ∧ 0 ≤ j ∧ j < b.cols.length
      · rw [if_pos h]
        obtain ⟨i', rfl⟩ := Int.eq_ofNat_of_zero_le h.1
        obtain ⟨j', rfl⟩ := Int.eq_ofNat_of_zero_le h.2.2.1
        have := two_ok a i' b j' hva hvb (by omega) (by omega)
        simp only [Int.toNat_natCast]
        by_cases hl : a.cols.length + b.cols.length ≤ 64 ∧ (twoL a i' b j').length ≤ 4096
        · rw [if_pos hl] at this ⊢
          rw [if_pos hl] at this
          exact this
        · rw [if_neg hl] at this ⊢
          rw [if_neg hl] at this
          exact this
      · rw [if_neg h]
        rcases (show i < 0 ∨ (0 ≤ i ∧ (a.cols.length : Int) ≤ i) ∨ (0 ≤ i ∧ i < a.cols.length ∧ j < 0) ∨ (0 ≤ i ∧ i < a.cols.length ∧ 0 ≤ j ∧ (b.cols.length : Int) ≤ j) by omega) with h1 | h1 | h1 | h1
        all_goals
          refine gEn env Tryd.func11 fun Γ hN hK hML => ?_
          (refine gGo ?_; intros)
          (refine gPC (sp1) ?_; conv => whnf)
          (refine gGo ?_; intros)
          (refine gPC (sp2) ?_; conv => whnf)
          (refine gGo ?_; intros)
          (refine gM ?_; conv => whnf)
          exact ret0 rfl rfl rfl
end Go.Sx.Sp
namespace Go.Sx.Sp
open Go Go.Sx Go.Proofs
attribute [local irreducible] GoodW famL
end Go.Sx.Sp
namespace Go.Sx.Sp
open Go Go.Sx Go.Proofs
attribute [local irreducible] GoodW famL
def twA (n : Nat) : Table := ⟨1, [], [⟨[112], List.replicate n awX⟩]⟩
def twB (n : Nat) : Table := ⟨2, [], [⟨[113], List.replicate n awX⟩]⟩
theorem cellRows_rep2 (m : Nat) : cellRows (List.replicate (m + 1) awX) = cellRows (List.replicate m awX) ++ [[.bool false, .str [120]]] := by
  rw [List.replicate_succ', cellRows, List.map_append]; rfl
set_option maxHeartbeats 8000000 in
theorem lawTwo_spec (n m : Nat) (hn : n ≤ 100000) (hm : m ≤ 100000) : Spec Tryd.prog 10 [.int .i64 (n : Nat), .int .i64 (m : Nat)] [] (.sl (tblRows [twA n, twB m]) false) [] := by
  refine gEn env Tryd.func10 fun Γ hN hK hML => ?_
  (refine gGl ?_; intros)
  refine Or.inl ?_
  conv => whnf
  (refine gGl ?_; intros)
  refine Or.inl ?_
  conv => whnf
  (refine gGo ?_; intros)
  refine W.ownCell 8 0 1 92 2 rfl rfl rfl rfl rfl ?_
  refine W.ownCell 11 0 1 93 2 rfl rfl rfl rfl rfl ?_
  refine W.loopG (fun k st => ∃ j : Nat, j ≤ n ∧ k = n - j ∧ st = ⟨[(0, .int .i64 (n : Nat)), (1, .int .i64 (m : Nat)), (5, .bp 5 0), (6, .bp 6 0), (13, .int .i64 (n : Nat)), (14, .int .i64 j)], [(5, [.rows 3 [[.int .i64 1, .str [], .osl 8 0 0 1 1]] none]), (6, [.rows 3 [[.int .i64 2, .str [], .osl 11 0 0 1 1]] none]), (8, [.rows 2 [[.str [112], .osl 92 0 0 (cellRows (List.replicate (j) awX)).length (cellRows (List.replicate (j) awX)).length]] none]), (92, [.rows 2 (cellRows (List.replicate (j) awX)) (some [])]), (11, [.rows 2 [[.str [113], .osl 93 0 0 (cellRows (List.replicate (0) awX)).length (cellRows (List.replicate (0) awX)).length]] none]), (93, [.rows 2 (cellRows (List.replicate (0) awX)) (some [])])], [5, 6, 8, 92, 11, 93]⟩)
    n _ ⟨0, by omega, by omega, rfl⟩ ⟨[(5, 5), (6, 6), (8, 8), (92, 92), (11, 11), (93, 93)], [], [], .mq (.ci 5 (.ci 6 (.ci 8 (.ci 92 (.ci 11 (.ci 93 .nil))))))⟩ ?_
  rintro k st ⟨j, hj, rfl, rfl⟩
  have hjl := cellRows_len (List.replicate j awX)
  rw [List.length_replicate] at hjl
  (refine gGo ?_; intros)
  refine boolRes_split (fun hb => ?_) (fun hb => ?_) <;> conv => whnf
  · have hlt : j < n := by omega
    have hrep := cellRows_rep2 j
    (refine gGo ?_; intros)
    refine ⟨⟨rowsSz_cons rfl rowsSz_nil, rfl⟩, fitsN (n := (cellRows (List.replicate j awX)).length + 1) (b := 24) (by omega) (by omega), .inl ⟨rfl, rfl, ?_⟩⟩
    conv => whnf
    (refine gGo ?_; intros)
    refine ⟨_, _, ?_, ⟨j + 1, by omega, rfl, rfl⟩, [(5, 5), (6, 6), (8, 8), (92, 92), (11, 11), (93, 93)], [], [], .mq (.ci 5 (.ci 6 (.cons 8 rfl rfl (.refl _) (by rw [hrep, List.length_append]; rfl) (.cons 92 rfl rfl (.refl _) (by rw [hrep]; rfl) (.ci 11 (.ci 93 .nil))))))⟩
    omega
  · obtain rfl : j = n := by omega
    (refine gGo ?_; intros)
    refine W.loopG (fun k st => ∃ i : Nat, i ≤ m ∧ k = m - i ∧ st = ⟨[(5, .bp 5 0), (6, .bp 6 0), (29, .int .i64 (m : Nat)), (30, .int .i64 i)], [(5, [.rows 3 [[.int .i64 1, .str [], .osl 8 0 0 1 1]] none]), (6, [.rows 3 [[.int .i64 2, .str [], .osl 11 0 0 1 1]] none]), (8, [.rows 2 [[.str [112], .osl 92 0 0 (cellRows (List.replicate (j) awX)).length (cellRows (List.replicate (j) awX)).length]] none]), (92, [.rows 2 (cellRows (List.replicate (j) awX)) (some [])]), (11, [.rows 2 [[.str [113], .osl 93 0 0 (cellRows (List.replicate (i) awX)).length (cellRows (List.replicate (i) awX)).length]] none]), (93, [.rows 2 (cellRows (List.replicate (i) awX)) (some [])])], [5, 6, 8, 92, 11, 93]⟩)
      m _ ⟨0, by omega, by omega, rfl⟩ ⟨[(5, 5), (6, 6), (8, 8), (92, 92), (11, 11), (93, 93)], [], [], .mq (.ci 5 (.ci 6 (.ci 8 (.ci 92 (.ci 11 (.ci 93 .nil))))))⟩ ?_
    rintro k st ⟨i, hi, rfl, rfl⟩
    have hil := cellRows_len (List.replicate i awX)
    rw [List.length_replicate] at hil
    (refine gGo ?_; intros)
    refine boolRes_split (fun hb => ?_) (fun hb => ?_) <;> conv => whnf
    · have hlt : i < m := by omega
      have hrep := cellRows_rep2 i
      (refine gGo ?_; intros)
      refine ⟨⟨rowsSz_cons rfl rowsSz_nil, rfl⟩, fitsN (n := (cellRows (List.replicate i awX)).length + 1) (b := 24) (by omega) (by omega), .inl ⟨rfl, rfl, ?_⟩⟩
      conv => whnf
      (refine gGo ?_; intros)
      refine ⟨_, _, ?_, ⟨i + 1, by omega, rfl, rfl⟩, [(5, 5), (6, 6), (8, 8), (92, 92), (11, 11), (93, 93)], [], [], .mq (.ci 5 (.ci 6 (.ci 8 (.ci 92 (.cons 11 rfl rfl (.refl _) (by rw [hrep, List.length_append]; rfl) (.cons 93 rfl rfl (.refl _) (by rw [hrep]; rfl) .nil))))))⟩
      omega
    · obtain rfl : i = m := by omega
      refine gA ?_
      refine gD rfl ?_
      refine gG ?_
      conv => whnf
      refine W.leG (mp := [(5, 5), (6, 6), (8, 8), (11, 11)]) (bo := [92, 93]) (st' := ⟨[(5, .bp 5 0), (6, .bp 6 0)], [(5, [.rows 3 [[.int .i64 1, .str [], .osl 8 0 0 1 1]] none]), (6, [.rows 3 [[.int .i64 2, .str [], .osl 11 0 0 1 1]] none]), (8, [.rows 2 [[.str [112], .sl (cellRows (List.replicate j awX)) false]] none]), (11, [.rows 2 [[.str [113], .sl (cellRows (List.replicate i awX)) false]] none])], [5, 6, 8, 11]⟩)
        (LeG.mq (.ci 5 (.ci 6 (.cons 8 (b1 := .rows 2 [[.str [112], .sl (cellRows (List.replicate j awX)) false]] none) rfl rfl (.rows _ _ _ (by repeat' (first | exact trivial | exact ⟨Lent.refl _, rfl⟩ | exact ⟨Lent.norm _, rfl⟩ | exact ⟨Lent.whole rfl rfl (by first | rfl | exact List.length_append.symm | exact hlenR | simp) rfl (by first | exact .inl rfl | exact .inr rfl), rfl⟩ | apply And.intro))) rfl (.cons 11 (b1 := .rows 2 [[.str [113], .sl (cellRows (List.replicate i awX)) false]] none) rfl rfl (.rows _ _ _ (by repeat' (first | exact trivial | exact ⟨Lent.refl _, rfl⟩ | exact ⟨Lent.norm _, rfl⟩ | exact ⟨Lent.whole rfl rfl (by first | rfl | exact List.length_append.symm | exact hlenR | simp) rfl (by first | exact .inl rfl | exact .inr rfl), rfl⟩ | apply And.intro))) rfl .nil))))) ?_
      refine W.leG (mp := [(5, 5), (6, 6)]) (bo := [8, 11]) (st' := ⟨[(5, .bp 5 0), (6, .bp 6 0)], [(5, [.rows 3 [(twA j).row] none]), (6, [.rows 3 [(twB i).row] none])], [5, 6]⟩)
        (LeG.mq (.cons 5 (b1 := .rows 3 [(twA j).row] none) rfl rfl (.rows _ _ _ (by repeat' (first | exact trivial | exact ⟨Lent.refl _, rfl⟩ | exact ⟨Lent.norm _, rfl⟩ | exact ⟨Lent.whole rfl rfl (by first | rfl | exact List.length_append.symm | exact hlenR | simp) rfl (by first | exact .inl rfl | exact .inr rfl), rfl⟩ | apply And.intro))) rfl (.cons 6 (b1 := .rows 3 [(twB i).row] none) rfl rfl (.rows _ _ _ (by repeat' (first | exact trivial | exact ⟨Lent.refl _, rfl⟩ | exact ⟨Lent.norm _, rfl⟩ | exact ⟨Lent.whole rfl rfl (by first | rfl | exact List.length_append.symm | exact hlenR | simp) rfl (by first | exact .inl rfl | exact .inr rfl), rfl⟩ | apply And.intro))) rfl .nil))) ?_
      (refine gGo ?_; intros)
      (refine gM ?_; conv => whnf)
      exact ret0 rfl rfl rfl
def stepP : Pth := ⟨1, [⟨1, 0, 2, 0⟩]⟩
theorem lawStep_spec : Spec Tryd.prog 12 [] [] (.agg stepP.row) [] := by
  refine gEn env Tryd.func12 fun Γ hN hK hML => ?_
  (refine gGo ?_; intros)
  (refine gM ?_; conv => whnf)
  exact ret0 rfl rfl rfl
end Go.Sx.Sp
namespace Go.Sx.Sp
open Go Go.Sx Go.Proofs
attribute [local irreducible] GoodW famL
def oneP (a : Table) (x : Nat) (b : Table) (y : Nat) : Pth := ⟨a.id, [⟨a.id, (x : Int), b.id, (y : Int)⟩]⟩
section
variable {l : List Table} {a b : Table} {x y : Nat}
theorem tabOf_some {l : List Table} {n : Int} {t : Table} (h : findT l n = some t) : tabOf l n = t := by unfold tabOf; rw [h]; rfl
theorem one_tabs (ha : findT l a.id = some a) (hb : findT l b.id = some b) : tabsM l (oneP a x b y) = [a, b] ∧ tabN l (oneP a x b y) 0 = a ∧ tabN l (oneP a x b y) 1 = b ∧ frN l (oneP a x b y) 1 = x ∧ ownN l (oneP a x b y) 1 = y := by
  have h1 : tabOf l a.id = a := tabOf_some ha
  have h2 : tabOf l b.id = b := tabOf_some hb
  refine ⟨?_, ?_, ?_, rfl, rfl⟩
  · show [tabOf l a.id, tabOf l b.id] = _
    rw [h1, h2]
  · show tabOf l a.id = a
    exact h1
  · show tabOf l b.id = b
    exact h2
theorem filter_map_flat {α β : Type} (P : α → Bool) (f : α → β) (l : List α) : (l.filter P).map f = l.flatMap fun y => if P y = true then [f y] else [] := by
  rw [← filter_flat P (fun y => [f y])]
  induction l.filter P with
  | nil => rfl
  | cons x l ih => simp [ih]
theorem one_rows (ha : findT l a.id = some a) (hb : findT l b.id = some b) : rowsL l (oneP a x b y) = twoL a x b y := by
  obtain ⟨_, h0, h1, h2, h3⟩ := one_tabs (x := x) (y := y) ha hb
  unfold rowsL rowsOfP twoL twoN
  rw [h0]
  refine flat_congr fun r _ => ?_
  show extN l (oneP a x b y) (ext l (oneP a x b y) 0) [r] (rowsN (tabN l (oneP a x b y) 1)) = _
  rw [h1]
  unfold extN fitL
  rw [filter_map_flat]
  refine flat_congr fun s _ => ?_
  have hp : parI (oneP a x b y) 0 = 0 := Nat.le_zero.1 (parI_le (oneP a x b y) (i := 0) (Nat.zero_le _))
  unfold extF stepFits
  simp only [List.length_singleton, Nat.sub_self, hp, h0, h1, h2, h3]
  rfl
theorem one_valid (hl : listB l = true) (ha : findT l a.id = some a) (hb : findT l b.id = some b) (hne : a.id ≠ b.id) (hx : x < a.cols.length) (hy : y < b.cols.length) : validE l (oneP a x b y) = 0 := by
  have h2 : pathB l (oneP a x b y) = true := by
    refine pathB_true ?_ fun j hj => ?_
    · show (findT l a.id).isSome = true
      rw [ha]; rfl
    · have hj : j < 1 := hj
      obtain rfl : j = 0 := by omega
      have g1 : (getC l a.id (x : Int)).isSome = true := by
        unfold getC
        rw [ha]
        simp [hx]
      have g2 : (getC l b.id (y : Int)).isSome = true := by
        unfold getC
        rw [hb]
        simp [hy]
      show ((getC l a.id (x : Int)).isSome && ((getC l b.id (y : Int)).isSome && (decide (a.id ∈ befT (oneP a x b y) 0) && !decide (b.id ∈ befT (oneP a x b y) 0)))) = true
      rw [g1, g2]
      have hbf : befT (oneP a x b y) 0 = [a.id] := rfl
      rw [hbf]
      simp [Ne.symm hne]
  unfold validE
  rw [if_pos hl, if_pos (show (oneP a x b y).steps.length ≤ 4 from Nat.le_of_ble_eq_true rfl), if_pos h2]
theorem togT_rows {ts : List Table} {R : List (List Nat)} {t : Table} (h : ts[0]? = some t) (hc : 0 < t.cols.length) : rowsN (togT ts R) = R.length := by
  cases ts with
  | nil => cases h
  | cons t' ts =>
    cases h
    unfold rowsN togT togC allC
    simp only [allF]
    unfold blkC
    cases htc : t.cols with
    | nil => rw [htc] at hc; simp at hc
    | cons c cs =>
      simp [List.mapIdx_cons, togF]
theorem two_count (a : Table) (i : Nat) (b : Table) (j : Nat) : ((twoL a i b j).length : Int) = sumTo (rowsN a) fun x => sumTo (rowsN b) fun y => if fitC (cellT a i x) (cellT b j y) = true then 1 else 0 := by
  unfold twoL twoN
  rw [flat_len]
  refine sumTo_congr fun x _ => ?_
  unfold fitL
  rw [filter_map_flat, flat_len]
  refine sumTo_congr fun y _ => ?_
  split <;> rfl
end
end Go.Sx.Sp
namespace Go.Sx.Sp
open Go Go.Sx Go.Proofs
attribute [local irreducible] GoodW famL
theorem fine_112 : fineB [112] = true := by decide +kernel
theorem fine_113 : fineB [113] = true := by decide +kernel
theorem fine_nil : fineB [] = true := by decide +kernel
theorem cellB_x : cellB awX = true := by decide +kernel
theorem tw_rows (n : Nat) : rowsN (twA n) = n ∧ rowsN (twB n) = n := by simp [twA, twB, rowsN]
theorem tw_valid {n : Nat} (h : n ≤ 4096) : validB (twA n) = true ∧ validB (twB n) = true := by
  have h4 : (List.replicate n awX).all cellB = true := by
    rw [List.all_eq_true]
    intro c hc
    rw [(List.mem_replicate.1 hc).2, cellB_x]
  have key : ∀ (t : Table) (nm : Str), fineB nm = true → t.name = [] → 0 ≤ t.id → t.id ≤ 1073741824 → t.cols = [⟨nm, List.replicate n awX⟩] → validB t = true := fun t nm hf h1 h2 h3 h5 => by
    have hr : rowsN t = n := by unfold rowsN; rw [h5]; simp
    unfold validB headB
    rw [hr, h5, h1, fine_nil, decide_eq_true ⟨h2, h3⟩, decide_eq_true h, List.any_cons]
    unfold badCol
    rw [hr, hf, h4]
    simp
  exact ⟨key _ [112] fine_112 rfl (by show (0 : Int) ≤ 1; decide) (by show (1 : Int) ≤ 1073741824; decide) rfl, key _ [113] fine_113 rfl (by show (0 : Int) ≤ 2; decide) (by show (2 : Int) ≤ 1073741824; decide) rfl⟩
theorem tw_list {n m : Nat} (hn : n ≤ 4096) (hm : m ≤ 4096) : listB [twA n, twB m] = true := by
  unfold listB
  rw [List.all_cons, List.all_cons, (tw_valid hn).1, (tw_valid hm).2]
  rfl
theorem tw_find (n m : Nat) : findT [twA n, twB m] (twA n).id = some (twA n) ∧ findT [twA n, twB m] (twB m).id = some (twB m) := ⟨rfl, rfl⟩
theorem tw_path (n m : Nat) : oneP (twA n) 0 (twB m) 0 = stepP := rfl
theorem tw_cell {n r : Nat} (h : r < n) : cellT (twA n) 0 r = awX ∧ cellT (twB n) 0 r = awX := by
  unfold cellT twA twB
  simp [h]
theorem tw_len (n m : Nat) : (twoL (twA n) 0 (twB m) 0).length = n * m := by
  have h := two_count (twA n) 0 (twB m) 0
  rw [(tw_rows n).1, (tw_rows m).2] at h
  have h2 : (sumTo n fun x => sumTo m fun y => if fitC (cellT (twA n) 0 x) (cellT (twB m) 0 y) = true then 1 else 0) = (n : Int) * m := by
    rw [sumTo_congr (g := fun _ => (m : Int)) fun x hx => ?_, sumTo_const]
    rw [sumTo_congr (g := fun _ => 1) fun y hy => ?_, sumTo_const, Int.mul_one]
    rw [(tw_cell hx).1, (tw_cell hy).2, if_pos fitC_x]
  rw [h2] at h
  exact_mod_cast h
theorem tw_cols (R : List (List Nat)) (n m : Nat) : (togT [twA n, twB m] R).cols.length = 2 := by
  show (togC [twA n, twB m] R).length = 2
  rw [togC_len]; rfl
theorem tw_two {n m : Nat} (hn : n ≤ 4096) (hm : m ≤ 4096) : twoE (twA n) 0 (twB m) 0 = if n * m ≤ 4096 then (togT [twA n, twB m] (twoL (twA n) 0 (twB m) 0), 0) else (Table.zero, 3) := by
  unfold twoE
  rw [if_pos ⟨(tw_valid hn).1, (tw_valid hm).2⟩, if_pos ⟨by decide, by show (0 : Int) < 1; decide, by decide, by show (0 : Int) < 1; decide⟩]
  have e : (twA n).cols.length + (twB m).cols.length ≤ 64 := by show 1 + 1 ≤ 64; decide
  rw [show (0 : Int).toNat = 0 from rfl, tw_len]
  by_cases h : n * m ≤ 4096
  · rw [if_pos ⟨e, h⟩, if_pos h]
  · rw [if_neg (fun h2 => h h2.2), if_neg h]
theorem tw_rowsL (n m : Nat) : rowsL [twA n, twB m] stepP = twoL (twA n) 0 (twB m) 0 := by
  have := one_rows (l := [twA n, twB m]) (x := 0) (y := 0) (tw_find n m).1 (tw_find n m).2
  rwa [tw_path] at this
theorem tw_plan {n m : Nat} (hn : n ≤ 4096) (hm : m ≤ 4096) : planE [twA n, twB m] stepP = if n * m ≤ 4096 then 0 else 3 := by
  have hv := one_valid (l := [twA n, twB m]) (x := 0) (y := 0) (tw_list hn hm) (tw_find n m).1 (tw_find n m).2 (by show (1 : Int) ≠ 2; decide) (by show 0 < 1; decide) (by show 0 < 1; decide)
  rw [tw_path] at hv
  unfold planE
  rw [if_pos hv, tw_rowsL, tw_len]
theorem tw_rowsE {n m : Nat} (hn : n ≤ 4096) (hm : m ≤ 4096) : rowsE [twA n, twB m] stepP = if n * m ≤ 4096 then (twoL (twA n) 0 (twB m) 0, 0) else ([], 3) := by
  rw [planE_rows, tw_plan hn hm, tw_rowsL]
  by_cases h : n * m ≤ 4096
  · rw [if_pos h, if_pos rfl, if_pos h]
  · rw [if_neg h, if_neg (by decide), if_neg h]
set_option maxHeartbeats 8000000 in
theorem awake31_spec : Spec Tryd.prog 5 [] [] (.bool true) [] := by
  have sp1 := lawTwo_spec 2 3 (by decide) (by decide)
  have sp2 := two_spec (twA 2) 0 (twB 3) 0
  have sp3 := rowsJ_spec [twA 2, twB 3] stepP
  have sp4 := lawStep_spec
  have hl := tw_len 2 3
  have hc := tw_cols (twoL (twA 2) 0 (twB 3) 0) 2 3
  have hr : rowsN (togT [twA 2, twB 3] (twoL (twA 2) 0 (twB 3) 0)) = 6 := by
    rw [togT_rows (t := twA 2) rfl (by decide), hl]
  rw [tw_two (by decide) (by decide), if_pos (by decide)] at sp2
  rw [tw_rowsE (by decide) (by decide), if_pos (by decide)] at sp3
  have sp5 := rows3_spec (togT [twA 2, twB 3] (twoL (twA 2) 0 (twB 3) 0))
  rw [hr] at sp5
  have hrl := rowRows_len (twoL (twA 2) 0 (twB 3) 0)
  have hcl := colRows_len (togT [twA 2, twB 3] (twoL (twA 2) 0 (twB 3) 0)).cols
  rw [hl] at hrl
  rw [hc] at hcl
  simp only at sp2 sp3
  change Spec _ _ [.int .i64 2, .int .i64 3] _ _ _ at sp1
  unfold Table.row at sp2 sp5
  generalize rowRows (twoL (twA 2) 0 (twB 3) 0) = RR at *
  generalize colRows (togT [twA 2, twB 3] (twoL (twA 2) 0 (twB 3) 0)).cols = CC at *
  refine gEn env Tryd.func5 fun Γ hN hK hML => ?_
  (refine gGo ?_; intros)
  (refine gPC (sp1) ?_; conv => whnf)
  (refine gGo ?_; intros)
  (refine gPC (sp2) ?_; conv => whnf)
  (refine gGo ?_; intros)
  (refine gPC (sp4) ?_; conv => whnf)
  (refine gGo ?_; intros)
  (refine gPC (sp3) ?_; conv => whnf)
  (refine gGo ?_; intros)
  (refine gPC (sp5) ?_; conv => whnf)
  (refine gGo ?_; intros)
  (refine gM ?_; conv => whnf)
  exact ret0 rfl rfl rfl
end Go.Sx.Sp
namespace Go.Sx.Sp
open Go Go.Sx Go.Proofs Go.RowKit
attribute [local irreducible] GoodW famL
end Go.Sx.Sp
namespace Go.Sx.Sp
open Go Go.Sx Go.Proofs
attribute [local irreducible] GoodW famL
end Go.Sx.Sp
namespace Go.Sx.Sp
open Go Go.Sx Go.Proofs Go.RowKit
attribute [local irreducible] GoodW famL
end Go.Sx.Sp
namespace Go.Sx.Sp
open Go Go.Sx Go.Proofs Go.RowKit
attribute [local irreducible] GoodW famL
theorem tabJ_rows {k : Nat} {t : Table} (h : TabJ k t) : rowsN t ≤ 5 := by
  obtain ⟨n, h1, h2, h3⟩ := h.cols
  have hf := h.few.1
  unfold rowsN
  cases hc : t.cols with
  | nil => exact Nat.zero_le _
  | cons c cs =>
    have := (h3 c (by rw [hc]; simp)).len
    simp only
    omega
end Go.Sx.Sp
namespace Go.Sx.Sp
open Go Go.Sx Go.Proofs Go.RowKit
attribute [local irreducible] GoodW famL
end Go.Sx.Sp
namespace Go.Sx.Sp
open Go Go.Sx Go.Proofs Go.RowKit
attribute [local irreducible] GoodW famL
section
variable (l : List Table) (p : Pth)
def allP : Nat → List (List Nat)
  | 0 => [[]]
  | i + 1 => (allP i).flatMap fun a => (List.range (rowsN (tabN l p i))).map fun r => a ++ [r]
def fitsQ (a : List Nat) (q : Nat) : Bool := (List.range q).all fun j => stepFits l p j (a.getD (parI p j) 0) (a.getD (j + 1) 0)
def stepX (hv : List Nat) : List (List Nat) := ((List.range (rowsN (tabN l p hv.length))).filter fun y => stepFits l p (hv.length - 1) (hv.getD (parI p (hv.length - 1)) 0) y).map fun y => hv ++ [y]
def levX : Nat → List (List Nat)
  | 0 => (List.range (rowsN (tabN l p 0))).map fun r => [r]
  | n + 1 => (levX n).flatMap (stepX l p)
end
section
variable {l : List Table} {p : Pth}
theorem flat_flat {α β γ : Type} (f : α → List β) (g : β → List γ) : ∀ l : List α, (l.flatMap f).flatMap g = l.flatMap fun x => (f x).flatMap g
  | [] => rfl
  | x :: l => by rw [List.flatMap_cons, List.flatMap_append, flat_flat f g l, List.flatMap_cons]
theorem map_flat {α β γ : Type} (f : α → β) (g : β → List γ) : ∀ l : List α, (l.map f).flatMap g = l.flatMap fun x => g (f x)
  | [] => rfl
  | x :: l => by rw [List.map_cons, List.flatMap_cons, map_flat f g l, List.flatMap_cons]
theorem ext_step (k : Nat) (hv : List Nat) : ext l p (k + 1) hv = (stepX l p hv).flatMap (ext l p k) := by
  show extN l p (ext l p k) hv _ = _
  unfold extN stepX
  rw [map_flat, filter_flat]
  refine flat_congr fun y _ => ?_
  unfold extF
  split <;> rfl
theorem lev_ext : ∀ (k n : Nat), (levX l p n).flatMap (ext l p k) = levX l p (n + k)
  | 0, n => by
    show (levX l p n).flatMap (fun hv => [hv]) = _
    rw [Nat.add_zero]
    induction levX l p n with
    | nil => rfl
    | cons x xs ih => rw [List.flatMap_cons, ih]; rfl
  | k + 1, n => by
    have h1 := lev_ext k (n + 1)
    rw [show n + (k + 1) = n + 1 + k by omega, ← h1]
    show _ = ((levX l p n).flatMap (stepX l p)).flatMap (ext l p k)
    rw [flat_flat]
    exact flat_congr fun hv _ => ext_step k hv
theorem rowsL_lev : rowsL l p = levX l p p.steps.length := by
  have h := lev_ext (l := l) (p := p) p.steps.length 0
  rw [Nat.zero_add] at h
  rw [← h]
  unfold rowsL rowsOfP
  show _ = ((List.range (rowsN (tabN l p 0))).map fun r => [r]).flatMap _
  rw [map_flat]
theorem allP_len : ∀ (i : Nat), ∀ a ∈ allP l p i, a.length = i
  | 0, a, h => by rw [List.mem_singleton.1 h]; rfl
  | i + 1, a, h => by
    obtain ⟨b, hb, h2⟩ := List.mem_flatMap.1 h
    obtain ⟨r, _, rfl⟩ := List.mem_map.1 h2
    rw [List.length_append, allP_len i b hb]; rfl
theorem filter_flat2 {α β : Type} (P : β → Bool) (f : α → List β) : ∀ l : List α, (l.flatMap f).filter P = l.flatMap fun x => (f x).filter P
  | [] => rfl
  | x :: l => by rw [List.flatMap_cons, List.filter_append, filter_flat2 P f l, List.flatMap_cons]
theorem fits_lev : ∀ n, n ≤ p.steps.length → (allP l p (n + 1)).filter (fun a => fitsQ l p a n) = levX l p n
  | 0, _ => by
    show (([[]] : List (List Nat)).flatMap _).filter _ = _
    have : ∀ L : List (List Nat), L.filter (fun a => fitsQ l p a 0) = L := fun L => List.filter_eq_self.2 fun a _ => rfl
    rw [this]
    simp [levX]
  | n + 1, h => by
    have ih := fits_lev n (by omega)
    show ((allP l p (n + 1)).flatMap _).filter _ = (levX l p n).flatMap (stepX l p)
    rw [filter_flat2, ← ih, filter_flat]
    refine flat_congr fun a ha => ?_
    have hal := allP_len (n + 1) a ha
    have hpar := parI_le p (i := n) (by omega)
    have hq : ∀ y, fitsQ l p (a ++ [y]) (n + 1) = (fitsQ l p a n && stepFits l p n (a.getD (parI p n) 0) y) := fun y => by
      unfold fitsQ
      rw [List.range_succ, List.all_append]
      congr 1
      · rw [Bool.eq_iff_iff, List.all_eq_true, List.all_eq_true]
        refine forall_congr' fun j => ?_
        refine imp_congr_right fun hj => ?_
        have hj := List.mem_range.1 hj
        have := parI_le p (i := j) (by omega)
        rw [getD_app (by omega), getD_app (by omega)]
      · have h1 : n + 1 = a.length := hal.symm
        simp only [List.all_cons, List.all_nil, Bool.and_true]
        rw [getD_app (show parI p n < a.length by omega), h1, getD_last]
    unfold stepX
    rw [hal, Nat.add_sub_cancel]
    by_cases hf : fitsQ l p a n = true
    · rw [if_pos hf, List.filter_map]
      congr 1
      refine List.filter_congr fun y _ => ?_
      show fitsQ l p (a ++ [y]) (n + 1) = _
      rw [hq, hf, Bool.true_and]
    · rw [if_neg hf, List.filter_eq_nil_iff]
      intro b hb
      obtain ⟨y, _, rfl⟩ := List.mem_map.1 hb
      rw [hq]
      simp [hf]
theorem fits_rows : (allP l p (p.steps.length + 1)).filter (fun a => fitsQ l p a p.steps.length) = rowsL l p := by
  rw [rowsL_lev]; exact fits_lev _ (Nat.le_refl _)
theorem allP_many : ∀ i, (∀ j, j < i → rowsN (tabN l p j) ≤ 5) → (allP l p i).length ≤ 5 ^ i
  | 0, _ => by simp [allP]
  | i + 1, h => by
    have ih := allP_many i fun j hj => h j (by omega)
    show ((allP l p i).flatMap _).length ≤ _
    rw [List.length_flatMap]
    have h5 := h i (by omega)
    have h1 : ((allP l p i).map fun a => ((List.range (rowsN (tabN l p i))).map fun r => a ++ [r]).length) = (allP l p i).map fun _ => rowsN (tabN l p i) := List.map_congr_left fun a _ => by rw [List.length_map, List.length_range]
    rw [h1, List.map_const', List.sum_replicate_nat, Nat.pow_succ]
    exact Nat.mul_le_mul ih h5
end
end Go.Sx.Sp
