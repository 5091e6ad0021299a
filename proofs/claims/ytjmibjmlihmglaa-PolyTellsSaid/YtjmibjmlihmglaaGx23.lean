-- Written by a program of this session out of the translation; Lean checks it.
import Derived.Test.YtjmibjmlihmglaaGx0
import Derived.Test.YtjmibjmlihmglaaGx16
namespace Go.Proofs.Ytjmibjmlihmglaa.G
open Go.RowKit Go.Proofs.YtjmibjmlihmglaaW.PrintWords Go.Proofs.YtjmibjmlihmglaaW.PrintLast Go.Proofs.YtjmibjmlihmglaaW.PrintMore
attribute [local go_sem] max2_int min2_int max_two min_two max_three min_three max_four min_four   -- for this text's walks alone
set_option linter.unusedVariables false
set_option linter.unusedSimpArgs false

/-! ### apogeeref01_Sub: function 82 -/
def apogeeref01_Sub.f (k : Nat) (a0_0 : Int) (a0_1 : Int) (a1_0 : Int) (a1_1 : Int) : Option (Int × Int × Bool) := (apogeeref01_Flip.f k a1_0 a1_1).bind fun bt480 => ((apogeeref01_plus.f k a0_0 a0_1 bt480.1 bt480.2).bind fun bt482 => (if ((decide (a0_0 < 0)) != (decide (a1_0 < 0))) = true then (if ((decide (bt482.1 < 0)) != (decide (a0_0 < 0))) = true then (some (0, 0, false)) else (some (bt482.1, bt482.2, true))) else (some (bt482.1, bt482.2, true))))
theorem apogeeref01_Sub.mono : ∀ a0 a1 a2 a3 k, LeO (apogeeref01_Sub.f k a0 a1 a2 a3) (apogeeref01_Sub.f (k + 1) a0 a1 a2 a3) := by
 intro a0 a1 a2 a3 k
 unfold apogeeref01_Sub.f
 repeat' first
   | (with_reducible exact apogeeref01_Flip.mono _ _ _)
   | (with_reducible exact apogeeref01_plus.mono _ _ _ _ _)
   | (with_reducible exact LeO.refl _)
   | (with_reducible exact LeO.none _)
   | (with_reducible refine LeO.ite ?_ ?_)
   | (with_reducible refine LeO.bind ?_ (fun _ => ?_))
   | exact apogeeref01_Flip.mono _ _ _
   | exact apogeeref01_plus.mono _ _ _ _ _
   | exact LeO.none _
   | refine LeO.ite ?_ ?_
   | refine LeO.bind ?_ (fun _ => ?_)
def apogeeref01_Sub.T1 : Bool × List (List Nat × List Nat) := (true, [([], []), ([], []), ([1], [1]), ([0, 2, 2], [0, 2]), ([], []), ([4, 3, 3, 0, 1, 2, 3, 4], [3, 4])])
def apogeeref01_Sub.B1 : List Nat := [0, 0, 2, 7, 0, 31]
theorem apogeeref01_Sub.tab1 : rtab .any (opsOf Try.f82 1) = apogeeref01_Sub.T1 := by kernel_rfl
theorem apogeeref01_Sub.bits1 : waitsOk apogeeref01_Sub.T1.2 apogeeref01_Sub.B1 = true := by kernel_rfl
set_option maxHeartbeats 8000000 in
set_option maxRecDepth 100000 in
theorem apogeeref01_Sub.calls (k : Nat) (a0_0 : Int) (a0_1 : Int) (a1_0 : Int) (a1_1 : Int) (r1 : Int) (r2 : Int) (r3 : Bool) (w : World) (h : apogeeref01_Sub.f k a0_0 a0_1 a1_0 a1_1 = some (r1, r2, r3)) :
  Calls Try.prog 82 #[.agg #[.int .i64 a0_0, .int .u64 a0_1], .agg #[.int .i64 a1_0, .int .u64 a1_1]] w fun e w' => e = .returned (.tuple #[.agg #[.int .i64 r1, .int .u64 r2], .bool r3]) ∧ Below w.heap.size w w' := by
 have hu90 := Try.underlying90
 have HB := bA (Below.refl w.heap.size w)
 have H : ((apogeeref01_Flip.f k a1_0 a1_1).bind fun bt480 => ((apogeeref01_plus.f k a0_0 a0_1 bt480.1 bt480.2).bind fun bt482 => (if ((decide (a0_0 < 0)) != (decide (a1_0 < 0))) = true then (if ((decide (bt482.1 < 0)) != (decide (a0_0 < 0))) = true then (some (0, 0, false)) else (some (bt482.1, bt482.2, true))) else (some (bt482.1, bt482.2, true))))) = some (r1, r2, r3) := h
 clear h
 replace H := Option.bind_eq_some_iff.mp H
 obtain ⟨⟨t480, t481⟩, A30, H⟩ := H
 replace H : ((apogeeref01_plus.f k a0_0 a0_1 t480 t481).bind fun bt482 => (if ((decide (a0_0 < 0)) != (decide (a1_0 < 0))) = true then (if ((decide (bt482.1 < 0)) != (decide (a0_0 < 0))) = true then (some (0, 0, false)) else (some (bt482.1, bt482.2, true))) else (some (bt482.1, bt482.2, true)))) = some (r1, r2, r3) := H
 have A3 := bA A30
 clear A30
 replace H := Option.bind_eq_some_iff.mp H
 obtain ⟨⟨t482, t483⟩, A40, H⟩ := H
 replace H : (if ((decide (a0_0 < 0)) != (decide (a1_0 < 0))) = true then (if ((decide (t482 < 0)) != (decide (a0_0 < 0))) = true then (some (0, 0, false)) else (some (t482, t483, true))) else (some (t482, t483, true))) = some (r1, r2, r3) := H
 have A4 := bA A40
 clear A40
 by_cases c5 : ((decide (a0_0 < 0)) != (decide (a1_0 < 0))) = true
 rotate_left
 ·rw [if_neg c5] at H
  have c5b0 : ((decide (a0_0 < 0)) != (decide (a1_0 < 0))) = false := by simpa using c5
  (try (have c5b1 : decide ((decide (a0_0 < 0)) = (decide (a1_0 < 0))) = true := by simpa using c5))
  (try (have c5b2 : ((decide (a0_0 < 0)) == (decide (a1_0 < 0))) = true := by simpa using c5))
  clear c5
  simp only [Option.some.injEq, Prod.mk.injEq] at H
  obtain ⟨rfl, rfl, rfl⟩ := H
  go_enter Try.func82, Try.ntmps82
  try go_wp2_with (first | ((with_reducible refine gate_dst (N := 2) rfl ?_); refine bE (N := 2) (cs := #[.int .i64 a0_0, .int .u64 a0_1]) (t := 90) ?_; intro gb477 hg w47 hbox hb; have BK477 := bA (hbox); have GW477 := bA (bZ hg); have GE477 := bA (bZ hg); replace HB := bA (bS hb); clear hb hbox hg) | ((with_reducible refine gate_dst (N := 3) rfl ?_); refine bE (N := 3) (cs := #[.int .i64 a1_0, .int .u64 a1_1]) (t := 90) ?_; intro gb478 hg w48 hbox hb; have BK478 := bA (hbox); have GW478 := bA (bZ hg); have GE478 := bA (bZ hg); have NB477_478 := bA (bL BK477 hg); have NB478_477 := bA (bG BK477 hg); replace BK477 := bA (bB BK477 hb); replace HB := bA (bS hb); clear hb hbox hg) | ((with_reducible refine gate_dst (N := 4) rfl ?_); refine bE (N := 4) (cs := #[.int .i64 0, .int .u64 0]) (t := 90) ?_; intro gb479 hg w49 hbox hb; have BK479 := bA (hbox); have GW479 := bA (bZ hg); have GE479 := bA (bZ hg); have NB477_479 := bA (bL BK477 hg); have NB479_477 := bA (bG BK477 hg); have NB478_479 := bA (bL BK478 hg); have NB479_478 := bA (bG BK478 hg); replace BK477 := bA (bB BK477 hb); replace BK478 := bA (bB BK478 hb); replace HB := bA (bS hb); clear hb hbox hg))
  replace BK477 := bA (blk_drew BK477.out)
  replace BK478 := bA (blk_drew BK478.out)
  replace BK479 := bA (blk_drew BK479.out)
  replace HB := bA (below_drew1 HB.out)
  refine start_ (n := 6) (S := fun w' => True) (ds := []) #[false, false, false, false, false, false] (by kernel_rfl) rfl rfl trivial (fun hHeld => ?_); refine with_tabW apogeeref01_Sub.tab1 apogeeref01_Sub.bits1 (fun HT_ HW_ => ?_)
  generalize w49.drew = w50 at BK477 BK478 BK479 HB hHeld ⊢
  refine inv_at [0, 1, 2, 3, 4, 5] (fun a0_ b a w' => ∃ (gb484 : Nat) (m4_ : Value), a = putSel a0_ b [(0, 7, .agg #[.int .i64 a0_0, .int .u64 a0_1]), (1, 8, .agg #[.int .i64 a1_0, .int .u64 a1_1]), (2, 9, .agg #[.int .i64 t480, .int .u64 t481]), (3, 10, .agg #[.int .i64 t482, .int .u64 t483]), (4, 6, m4_)] ∧ (w'.heap[gb477]? = some (.cells #[.int .i64 a0_0, .int .u64 a0_1] 90 (0, 0))) ∧ (w'.heap[gb478]? = some (.cells #[.int .i64 a1_0, .int .u64 a1_1] 90 (0, 0))) ∧ (w'.heap[gb479]? = some (.cells #[.int .i64 0, .int .u64 0] 90 (0, 0))) ∧ (Below w.heap.size w w') ∧ (b 4 = true → b 5 = false → w'.heap[gb484]? = some (.cells #[.int .i64 0, .int .u64 0] 90 (0, 0))) ∧ (b 4 = true → w.heap.size ≤ gb484) ∧ (b 4 = true → w.heap.size ≤ gb484) ∧ (b 4 = true → gb477 ≠ gb484) ∧ (b 4 = true → gb484 ≠ gb477) ∧ (b 4 = true → gb478 ≠ gb484) ∧ (b 4 = true → gb484 ≠ gb478) ∧ (b 4 = true → gb479 ≠ gb484) ∧ (b 4 = true → gb484 ≠ gb479) ∧ (b 5 = true → w'.heap[gb484]? = some (.cells #[.int .i64 t482, .int .u64 t483] 90 (0, 0))) ∧ (b 4 = true → (m4_ : Value) = .pointer (some ⟨gb484, 0, none⟩))) HT_.out HW_.out (by kernel_rfl) (by kernel_rfl) ?_ ?_ ?_
  ·exact ⟨0, .bool false, by simp only [putSel, Bool.false_eq_true, if_false], BK477.out, BK478.out, BK479.out, HB.out, fun h_ => absurd h_ (by decide), fun h_ => absurd h_ (by decide), fun h_ => absurd h_ (by decide), fun h_ => absurd h_ (by decide), fun h_ => absurd h_ (by decide), fun h_ => absurd h_ (by decide), fun h_ => absurd h_ (by decide), fun h_ => absurd h_ (by decide), fun h_ => absurd h_ (by decide), fun h_ => absurd h_ (by decide), fun h_ => absurd h_ (by decide)⟩
  ·skip
   clear BK477 BK478 BK479 HB
   refine steps_cons ?_ ?_
   ·rintro b a w' ⟨gb484, m4_, ha, Q_BK477, Q_BK478, Q_BK479, Q_HB, Q_BK484, Q_GW484, Q_GE484, Q_NB477_484, Q_NB484_477, Q_NB478_484, Q_NB484_478, Q_NB479_484, Q_NB484_479, Q_BK484_e5, Q_X4_⟩ hb_ hon hoff
    refine ⟨_, rfl, fun K hK => ?_⟩
    have e2 : a.tmps[2]? = some (.pointer (some ⟨gb477, 0, none⟩)) := by rw [ha]; exact (putSel_off rfl).trans rfl
    replace ha := bA ha
    have BK477 := bA Q_BK477
    have BK478 := bA Q_BK478
    have BK479 := bA Q_BK479
    have HB := bA Q_HB
    have hc0_ : w'.cell? ⟨gb477, 0, none⟩ = some (.int .i64 a0_0) := bq BK477 0
    have hc1_ : w'.cell? ⟨gb477, 1, none⟩ = some (.int .u64 a0_1) := bq BK477 1
    refine value_ (w1 := w') (v := .agg #[.int .i64 a0_0, .int .u64 a0_1]) (by rfl) rfl ?_ ?_
    ·go_simp
     (try simp only [i64_w])
     try rfl
    refine hK.out _ _ ⟨gb484, m4_, (by rw [ha.out]; exact putSel_upk 0 hb_ rfl rfl rfl), Q_BK477, Q_BK478, Q_BK479, Q_HB, Q_BK484, Q_GW484, Q_GE484, Q_NB477_484, Q_NB484_477, Q_NB478_484, Q_NB484_478, Q_NB479_484, Q_NB484_479, fun h0_ => absurd ((hoff 5 (by kernel_rfl)).symm.trans h0_) (by decide), Q_X4_⟩
   refine steps_cons ?_ ?_
   ·rintro b a w' ⟨gb484, m4_, ha, Q_BK477, Q_BK478, Q_BK479, Q_HB, Q_BK484, Q_GW484, Q_GE484, Q_NB477_484, Q_NB484_477, Q_NB478_484, Q_NB484_478, Q_NB479_484, Q_NB484_479, Q_BK484_e5, Q_X4_⟩ hb_ hon hoff
    refine ⟨_, rfl, fun K hK => ?_⟩
    have e3 : a.tmps[3]? = some (.pointer (some ⟨gb478, 0, none⟩)) := by rw [ha]; exact (putSel_off rfl).trans rfl
    replace ha := bA ha
    have BK477 := bA Q_BK477
    have BK478 := bA Q_BK478
    have BK479 := bA Q_BK479
    have HB := bA Q_HB
    have hc0_ : w'.cell? ⟨gb478, 0, none⟩ = some (.int .i64 a1_0) := bq BK478 0
    have hc1_ : w'.cell? ⟨gb478, 1, none⟩ = some (.int .u64 a1_1) := bq BK478 1
    refine value_ (w1 := w') (v := .agg #[.int .i64 a1_0, .int .u64 a1_1]) (by rfl) rfl ?_ ?_
    ·go_simp
     (try simp only [i64_w])
     try rfl
    refine hK.out _ _ ⟨gb484, m4_, (by rw [ha.out]; exact putSel_upk 1 hb_ rfl rfl rfl), Q_BK477, Q_BK478, Q_BK479, Q_HB, Q_BK484, Q_GW484, Q_GE484, Q_NB477_484, Q_NB484_477, Q_NB478_484, Q_NB484_478, Q_NB479_484, Q_NB484_479, fun h0_ => absurd ((hoff 5 (by kernel_rfl)).symm.trans h0_) (by decide), Q_X4_⟩
   refine steps_cons ?_ ?_
   ·rintro b a w' ⟨gb484, m4_, ha, Q_BK477, Q_BK478, Q_BK479, Q_HB, Q_BK484, Q_GW484, Q_GE484, Q_NB477_484, Q_NB484_477, Q_NB478_484, Q_NB484_478, Q_NB479_484, Q_NB484_479, Q_BK484_e5, Q_X4_⟩ hb_ hon hoff
    refine ⟨_, rfl, fun K hK => ?_⟩
    have e8 : a.tmps[8]? = some (.agg #[.int .i64 a1_0, .int .u64 a1_1]) := by rw [ha]; exact putSel_on (e := (1, 8, .agg #[.int .i64 a1_0, .int .u64 a1_1])) 1 rfl rfl (hon 1 (by kernel_rfl)) rfl
    replace ha := bA ha
    have BK477 := bA Q_BK477
    have BK478 := bA Q_BK478
    have BK479 := bA Q_BK479
    have HB := bA Q_HB
    refine goes_ Try.func111 (by kernel_rfl) rfl #[.agg #[.int .i64 a1_0, .int .u64 a1_1]] (by rfl) rfl rfl (by first | (simp only [List.map_toArray, List.map_cons, List.map_nil, Act.eval, Array.getD_eq_getD_getElem?, Option.getD_some, e8]; done) | (simp only [List.map_toArray, List.map_cons, List.map_nil, Act.eval, Array.getD_eq_getD_getElem?, Option.getD_some, e8]; rfl)) ?_
    with_reducible refine (apogeeref01_Flip.calls k a1_0 a1_1 t480 t481 _ A3.out).mono ?_
    rintro e w51 ⟨rfl, hb⟩
    refine ⟨_, rfl, ?_⟩
    have n0_ := bA (bB BK477 hb)
    have n1_ := bA (bB BK478 hb)
    have n2_ := bA (bB BK479 hb)
    have n3_ := bA (bS hb)
    have z_BK484 := fun (h0_ : b 4 = true) (h1_ : b 5 = false) => (show w51.heap[gb484]? = some (.cells #[.int .i64 0, .int .u64 0] 90 (0, 0)) from by first | exact (blk_below (g := gb484) (o := .cells #[.int .i64 0, .int .u64 0] 90 (0, 0)) (by (with_reducible repeat (first | refine blk_drewN ?_ _ | refine blk_drew ?_ | refine blk_alloc ?_ _)); exact (Q_BK484 h0_ h1_)) hb))
    clear BK477
    clear BK478
    clear BK479
    clear HB
    have BK477 := n0_
    have BK478 := n1_
    have BK479 := n2_
    have HB := n3_
    clear n0_ n1_ n2_ n3_
    (try clear hb)
    refine hK.out _ _ ⟨gb484, m4_, (by rw [ha.out]; exact putSel_upk 2 hb_ rfl rfl rfl), (bP BK477), (bP BK478), (bP BK479), bX, z_BK484, Q_GW484, Q_GE484, Q_NB477_484, Q_NB484_477, Q_NB478_484, Q_NB484_478, Q_NB479_484, Q_NB484_479, fun h0_ => absurd ((hoff 5 (by kernel_rfl)).symm.trans h0_) (by decide), Q_X4_⟩
   refine steps_cons ?_ ?_
   ·rintro b a w' ⟨gb484, m4_, ha, Q_BK477, Q_BK478, Q_BK479, Q_HB, Q_BK484, Q_GW484, Q_GE484, Q_NB477_484, Q_NB484_477, Q_NB478_484, Q_NB484_478, Q_NB479_484, Q_NB484_479, Q_BK484_e5, Q_X4_⟩ hb_ hon hoff
    refine ⟨_, rfl, fun K hK => ?_⟩
    have e7 : a.tmps[7]? = some (.agg #[.int .i64 a0_0, .int .u64 a0_1]) := by rw [ha]; exact putSel_on (e := (0, 7, .agg #[.int .i64 a0_0, .int .u64 a0_1])) 0 rfl rfl (hon 0 (by kernel_rfl)) rfl
    have e9 : a.tmps[9]? = some (.agg #[.int .i64 t480, .int .u64 t481]) := by rw [ha]; exact putSel_on (e := (2, 9, .agg #[.int .i64 t480, .int .u64 t481])) 2 rfl rfl (hon 2 (by kernel_rfl)) rfl
    replace ha := bA ha
    have BK477 := bA Q_BK477
    have BK478 := bA Q_BK478
    have BK479 := bA Q_BK479
    have HB := bA Q_HB
    refine goes_ Try.func109 (by kernel_rfl) rfl #[.agg #[.int .i64 a0_0, .int .u64 a0_1], .agg #[.int .i64 t480, .int .u64 t481]] (by rfl) rfl rfl (by first | (simp only [List.map_toArray, List.map_cons, List.map_nil, Act.eval, Array.getD_eq_getD_getElem?, Option.getD_some, e7, e9]; done) | (simp only [List.map_toArray, List.map_cons, List.map_nil, Act.eval, Array.getD_eq_getD_getElem?, Option.getD_some, e7, e9]; rfl)) ?_
    with_reducible refine (apogeeref01_plus.calls k a0_0 a0_1 t480 t481 t482 t483 _ A4.out).mono ?_
    rintro e w53 ⟨rfl, hb⟩
    refine ⟨_, rfl, ?_⟩
    have n0_ := bA (bB BK477 hb)
    have n1_ := bA (bB BK478 hb)
    have n2_ := bA (bB BK479 hb)
    have n3_ := bA (bS hb)
    have z_BK484 := fun (h0_ : b 4 = true) (h1_ : b 5 = false) => (show w53.heap[gb484]? = some (.cells #[.int .i64 0, .int .u64 0] 90 (0, 0)) from by first | exact (blk_below (g := gb484) (o := .cells #[.int .i64 0, .int .u64 0] 90 (0, 0)) (by (with_reducible repeat (first | refine blk_drewN ?_ _ | refine blk_drew ?_ | refine blk_alloc ?_ _)); exact (Q_BK484 h0_ h1_)) hb))
    clear BK477
    clear BK478
    clear BK479
    clear HB
    have BK477 := n0_
    have BK478 := n1_
    have BK479 := n2_
    have HB := n3_
    clear n0_ n1_ n2_ n3_
    (try clear hb)
    refine hK.out _ _ ⟨gb484, m4_, (by rw [ha.out]; exact putSel_upk 3 hb_ rfl rfl rfl), (bP BK477), (bP BK478), (bP BK479), bX, z_BK484, Q_GW484, Q_GE484, Q_NB477_484, Q_NB484_477, Q_NB478_484, Q_NB484_478, Q_NB479_484, Q_NB484_479, fun h0_ => absurd ((hoff 5 (by kernel_rfl)).symm.trans h0_) (by decide), Q_X4_⟩
   refine steps_cons ?_ ?_
   ·rintro b a w' ⟨gb484, m4_, ha, Q_BK477, Q_BK478, Q_BK479, Q_HB, Q_BK484, Q_GW484, Q_GE484, Q_NB477_484, Q_NB484_477, Q_NB478_484, Q_NB484_478, Q_NB479_484, Q_NB484_479, Q_BK484_e5, Q_X4_⟩ hb_ hon hoff
    refine ⟨_, rfl, fun K hK => ?_⟩
    replace ha := bA ha
    have BK477 := bA Q_BK477
    have BK478 := bA Q_BK478
    have BK479 := bA Q_BK479
    have HB := bA Q_HB
    refine bT (N := 6) (cs := #[.int .i64 0, .int .u64 0]) (t := 90) ?_
    intro gb484 hg w51 hbox hb
    have BK484 := bA (hbox)
    have GW484 := bA (bZ hg)
    have GE484 := bA (bZ hg)
    have NB477_484 := bA (bL BK477 hg)
    have NB484_477 := bA (bG BK477 hg)
    have NB478_484 := bA (bL BK478 hg)
    have NB484_478 := bA (bG BK478 hg)
    have NB479_484 := bA (bL BK479 hg)
    have NB484_479 := bA (bG BK479 hg)
    replace BK477 := bA (bB BK477 hb)
    replace BK478 := bA (bB BK478 hb)
    replace BK479 := bA (bB BK479 hb)
    replace HB := bA (bS hb)
    clear hb hbox hg
    refine hK.out _ _ ⟨gb484, (.pointer (some ⟨gb484, 0, none⟩)), (by rw [ha.out]; exact putSel_upk 4 hb_ rfl rfl rfl), (bP BK477), (bP BK478), (bP BK479), bX, fun _ _ => (bP BK484), fun _ => GW484.out, fun _ => GE484.out, fun _ => NB477_484.out, fun _ => NB484_477.out, fun _ => NB478_484.out, fun _ => NB484_478.out, fun _ => NB479_484.out, fun _ => NB484_479.out, fun h0_ => absurd ((hoff 5 (by kernel_rfl)).symm.trans h0_) (by decide), fun _ => rfl⟩
   refine steps_cons ?_ ?_
   ·rintro b a w' ⟨gb484, m4_, ha, Q_BK477, Q_BK478, Q_BK479, Q_HB, Q_BK484, Q_GW484, Q_GE484, Q_NB477_484, Q_NB484_477, Q_NB478_484, Q_NB484_478, Q_NB479_484, Q_NB484_479, Q_BK484_e5, Q_X4_⟩ hb_ hon hoff
    refine ⟨_, rfl, fun K hK => ?_⟩
    have e6 : a.tmps[6]? = some (m4_) := by rw [ha]; exact putSel_on (e := (4, 6, m4_)) 4 rfl rfl (hon 4 (by kernel_rfl)) rfl
    rw [Q_X4_ (hon 4 (by kernel_rfl))] at e6
    have e10 : a.tmps[10]? = some (.agg #[.int .i64 t482, .int .u64 t483]) := by rw [ha]; exact putSel_on (e := (3, 10, .agg #[.int .i64 t482, .int .u64 t483])) 3 rfl rfl (hon 3 (by kernel_rfl)) rfl
    replace ha := bA ha
    have BK477 := bA Q_BK477
    have BK478 := bA Q_BK478
    have BK479 := bA Q_BK479
    have HB := bA Q_HB
    have BK484 := bA (Q_BK484 (hon 4 (by kernel_rfl)) hb_)
    have GW484 := bA (Q_GW484 (hon 4 (by kernel_rfl)))
    have GE484 := bA (Q_GE484 (hon 4 (by kernel_rfl)))
    have NB477_484 := bA (Q_NB477_484 (hon 4 (by kernel_rfl)))
    have NB484_477 := bA (Q_NB484_477 (hon 4 (by kernel_rfl)))
    have NB478_484 := bA (Q_NB478_484 (hon 4 (by kernel_rfl)))
    have NB484_478 := bA (Q_NB484_478 (hon 4 (by kernel_rfl)))
    have NB479_484 := bA (Q_NB479_484 (hon 4 (by kernel_rfl)))
    have NB484_479 := bA (Q_NB484_479 (hon 4 (by kernel_rfl)))
    have hs55 : w'.cell? ⟨gb484, 0, none⟩ = some (.int .i64 0) := bq BK484 0
    have hfs55 := blk_frozen BK484.out 0
    have hns55_0 := NB477_484.out
    have hns55_1 := NB478_484.out
    have hns55_2 := NB479_484.out
    have hms55_0 := NB484_477.out
    have hms55_1 := NB484_478.out
    have hms55_2 := NB484_479.out
    have hs56 : w'.cell? ⟨gb484, 1, none⟩ = some (.int .u64 0) := bq BK484 1
    have hfs56 := blk_frozen BK484.out 1
    have hns56_0 := NB477_484.out
    have hns56_1 := NB478_484.out
    have hns56_2 := NB479_484.out
    have hms56_0 := NB484_477.out
    have hms56_1 := NB484_478.out
    have hms56_2 := NB484_479.out
    refine skip_ (w1 := ?_) (by rfl) rfl ?_ ?_
    rotate_left
    ·go_simp
     rfl
    refine hK.out _ _ ⟨gb484, m4_, (by rw [ha.out]; exact putSel_none (v := undef) rfl), (by (repeat ((with_reducible repeat (first | refine blk_drewN ?_ _ | refine blk_drew ?_ | refine blk_alloc ?_ _)); refine blk_far ?_ NB477_484.out _)); (with_reducible repeat (first | refine blk_drewN ?_ _ | refine blk_drew ?_ | refine blk_alloc ?_ _)); exact BK477.out), (by (repeat ((with_reducible repeat (first | refine blk_drewN ?_ _ | refine blk_drew ?_ | refine blk_alloc ?_ _)); refine blk_far ?_ NB478_484.out _)); (with_reducible repeat (first | refine blk_drewN ?_ _ | refine blk_drew ?_ | refine blk_alloc ?_ _)); exact BK478.out), (by (repeat ((with_reducible repeat (first | refine blk_drewN ?_ _ | refine blk_drew ?_ | refine blk_alloc ?_ _)); refine blk_far ?_ NB479_484.out _)); (with_reducible repeat (first | refine blk_drewN ?_ _ | refine blk_drew ?_ | refine blk_alloc ?_ _)); exact BK479.out), bX, fun _ h1_ => absurd ((up_self b 5).symm.trans h1_) (by decide), fun _ => GW484.out, fun _ => GE484.out, fun _ => NB477_484.out, fun _ => NB484_477.out, fun _ => NB478_484.out, fun _ => NB484_478.out, fun _ => NB479_484.out, fun _ => NB484_479.out, fun _ => (by (with_reducible repeat (first | refine blk_drewN ?_ _ | refine blk_drew ?_ | refine blk_alloc ?_ _)); refine blk_put (cs := #[.int .i64 t482, .int .u64 0]) ?_ 1 _ rfl; (with_reducible repeat (first | refine blk_drewN ?_ _ | refine blk_drew ?_ | refine blk_alloc ?_ _)); refine blk_put (cs := #[.int .i64 0, .int .u64 0]) ?_ 0 _ rfl; (with_reducible repeat (first | refine blk_drewN ?_ _ | refine blk_drew ?_ | refine blk_alloc ?_ _)); exact BK484.out), Q_X4_⟩
   exact steps_nil
  rintro b a w56 hall ⟨gb484, m4_, ha, Q_BK477, Q_BK478, Q_BK479, Q_HB, Q_BK484, Q_GW484, Q_GE484, Q_NB477_484, Q_NB484_477, Q_NB478_484, Q_NB484_478, Q_NB479_484, Q_NB484_479, Q_BK484_e5, Q_X4_⟩
  clear BK477 BK478 BK479 HB
  have hb0_ := hall 0 (by kernel_rfl)
  have hb1_ := hall 1 (by kernel_rfl)
  have hb2_ := hall 2 (by kernel_rfl)
  have hb3_ := hall 3 (by kernel_rfl)
  have hb4_ := hall 4 (by kernel_rfl)
  have hb5_ := hall 5 (by kernel_rfl)
  subst ha
  obtain rfl := Q_X4_ hb4_
  simp only [putSel, hb0_, hb1_, hb2_, hb3_, hb4_, hb5_, if_true, Act.put, List.setIfInBounds_toArray, List.set_cons_zero, List.set_cons_succ]
  have BK477 := bA Q_BK477
  clear Q_BK477
  have BK478 := bA Q_BK478
  clear Q_BK478
  have BK479 := bA Q_BK479
  clear Q_BK479
  have HB := bA Q_HB
  clear Q_HB
  clear Q_BK484
  have GW484 := bA (Q_GW484 hb4_)
  clear Q_GW484
  have GE484 := bA (Q_GE484 hb4_)
  clear Q_GE484
  have NB477_484 := bA (Q_NB477_484 hb4_)
  clear Q_NB477_484
  have NB484_477 := bA (Q_NB484_477 hb4_)
  clear Q_NB484_477
  have NB478_484 := bA (Q_NB478_484 hb4_)
  clear Q_NB478_484
  have NB484_478 := bA (Q_NB484_478 hb4_)
  clear Q_NB484_478
  have NB479_484 := bA (Q_NB479_484 hb4_)
  clear Q_NB479_484
  have NB484_479 := bA (Q_NB484_479 hb4_)
  clear Q_NB484_479
  have BK484 := bA (Q_BK484_e5 hb5_)
  clear Q_BK484_e5
  clear hall hb0_ hb1_ hb2_ hb3_ hb4_ hb5_
  have hnb57 := NB477_478.out
  have hnc57 := NB478_477.out
  have hnb58 := NB477_479.out
  have hnc58 := NB479_477.out
  have hnb59 := NB477_484.out
  have hnc59 := NB484_477.out
  obtain ⟨hcz60_0, hcz60_1, hfz60_0, hfz60_1⟩ := bc2 BK477
  have hnb61 := NB478_479.out
  have hnc61 := NB479_478.out
  have hnb62 := NB478_484.out
  have hnc62 := NB484_478.out
  obtain ⟨hcz63_0, hcz63_1, hfz63_0, hfz63_1⟩ := bc2 BK478
  have hnb64 := NB484_479.out
  have hnc64 := NB479_484.out
  obtain ⟨hcz65_0, hcz65_1, hfz65_0, hfz65_1⟩ := bc2 BK484
  obtain ⟨hcz66_0, hcz66_1, hfz66_0, hfz66_1⟩ := bc2 BK479
  try go_wp2
  refine bodyPost_ret (results_ct rfl _ _ gb479 90 #[.int .i64 t482, .int .u64 t483] (0, 0) _ rfl (by (with_reducible repeat (first | refine blk_drewN ?_ _ | refine blk_drew ?_ | refine blk_alloc ?_ _)); refine blk_put (cs := #[.int .i64 t482, .int .u64 0]) ?_ 1 _ rfl; (with_reducible repeat (first | refine blk_drewN ?_ _ | refine blk_drew ?_ | refine blk_alloc ?_ _)); refine blk_put (cs := #[.int .i64 0, .int .u64 0]) ?_ 0 _ rfl; (with_reducible repeat (first | refine blk_drewN ?_ _ | refine blk_drew ?_ | refine blk_alloc ?_ _)); exact BK479.out) Try.underlying90 rfl (by kernel_rfl)) rfl ?_
  exact bF
 rw [if_pos c5] at H
 have c5b0 : ((decide (a0_0 < 0)) != (decide (a1_0 < 0))) = true := c5
 (try (have c5b1 : decide ((decide (a0_0 < 0)) = (decide (a1_0 < 0))) = false := by simpa using c5))
 (try (have c5b2 : ((decide (a0_0 < 0)) == (decide (a1_0 < 0))) = false := by simpa using c5))
 (try (have c5b3 : ¬ ((decide (a0_0 < 0)) = (decide (a1_0 < 0))) := by simpa using c5))
 clear c5
 by_cases c6 : ((decide (t482 < 0)) != (decide (a0_0 < 0))) = true
 ·rw [if_pos c6] at H
  have c6b0 : ((decide (t482 < 0)) != (decide (a0_0 < 0))) = true := c6
  (try (have c6b1 : decide ((decide (t482 < 0)) = (decide (a0_0 < 0))) = false := by simpa using c6))
  (try (have c6b2 : ((decide (t482 < 0)) == (decide (a0_0 < 0))) = false := by simpa using c6))
  (try (have c6b3 : ¬ ((decide (t482 < 0)) = (decide (a0_0 < 0))) := by simpa using c6))
  clear c6
  simp only [Option.some.injEq, Prod.mk.injEq] at H
  obtain ⟨rfl, rfl, rfl⟩ := H
  go_enter Try.func82, Try.ntmps82
  try go_wp2_with (first | ((with_reducible refine gate_dst (N := 2) rfl ?_); refine bE (N := 2) (cs := #[.int .i64 a0_0, .int .u64 a0_1]) (t := 90) ?_; intro gb477 hg w7 hbox hb; have BK477 := bA (hbox); have GW477 := bA (bZ hg); have GE477 := bA (bZ hg); replace HB := bA (bS hb); clear hb hbox hg) | ((with_reducible refine gate_dst (N := 3) rfl ?_); refine bE (N := 3) (cs := #[.int .i64 a1_0, .int .u64 a1_1]) (t := 90) ?_; intro gb478 hg w8 hbox hb; have BK478 := bA (hbox); have GW478 := bA (bZ hg); have GE478 := bA (bZ hg); have NB477_478 := bA (bL BK477 hg); have NB478_477 := bA (bG BK477 hg); replace BK477 := bA (bB BK477 hb); replace HB := bA (bS hb); clear hb hbox hg) | ((with_reducible refine gate_dst (N := 4) rfl ?_); refine bE (N := 4) (cs := #[.int .i64 0, .int .u64 0]) (t := 90) ?_; intro gb479 hg w9 hbox hb; have BK479 := bA (hbox); have GW479 := bA (bZ hg); have GE479 := bA (bZ hg); have NB477_479 := bA (bL BK477 hg); have NB479_477 := bA (bG BK477 hg); have NB478_479 := bA (bL BK478 hg); have NB479_478 := bA (bG BK478 hg); replace BK477 := bA (bB BK477 hb); replace BK478 := bA (bB BK478 hb); replace HB := bA (bS hb); clear hb hbox hg))
  replace BK477 := bA (blk_drew BK477.out)
  replace BK478 := bA (blk_drew BK478.out)
  replace BK479 := bA (blk_drew BK479.out)
  replace HB := bA (below_drew1 HB.out)
  refine start_ (n := 6) (S := fun w' => True) (ds := []) #[false, false, false, false, false, false] (by kernel_rfl) rfl rfl trivial (fun hHeld => ?_); refine with_tabW apogeeref01_Sub.tab1 apogeeref01_Sub.bits1 (fun HT_ HW_ => ?_)
  generalize w9.drew = w10 at BK477 BK478 BK479 HB hHeld ⊢
  refine inv_at [0, 1, 2, 3, 4, 5] (fun a0_ b a w' => ∃ (gb484 : Nat) (m4_ : Value), a = putSel a0_ b [(0, 7, .agg #[.int .i64 a0_0, .int .u64 a0_1]), (1, 8, .agg #[.int .i64 a1_0, .int .u64 a1_1]), (2, 9, .agg #[.int .i64 t480, .int .u64 t481]), (3, 10, .agg #[.int .i64 t482, .int .u64 t483]), (4, 6, m4_)] ∧ (w'.heap[gb477]? = some (.cells #[.int .i64 a0_0, .int .u64 a0_1] 90 (0, 0))) ∧ (w'.heap[gb478]? = some (.cells #[.int .i64 a1_0, .int .u64 a1_1] 90 (0, 0))) ∧ (w'.heap[gb479]? = some (.cells #[.int .i64 0, .int .u64 0] 90 (0, 0))) ∧ (Below w.heap.size w w') ∧ (b 4 = true → b 5 = false → w'.heap[gb484]? = some (.cells #[.int .i64 0, .int .u64 0] 90 (0, 0))) ∧ (b 4 = true → w.heap.size ≤ gb484) ∧ (b 4 = true → w.heap.size ≤ gb484) ∧ (b 4 = true → gb477 ≠ gb484) ∧ (b 4 = true → gb484 ≠ gb477) ∧ (b 4 = true → gb478 ≠ gb484) ∧ (b 4 = true → gb484 ≠ gb478) ∧ (b 4 = true → gb479 ≠ gb484) ∧ (b 4 = true → gb484 ≠ gb479) ∧ (b 5 = true → w'.heap[gb484]? = some (.cells #[.int .i64 t482, .int .u64 t483] 90 (0, 0))) ∧ (b 4 = true → (m4_ : Value) = .pointer (some ⟨gb484, 0, none⟩))) HT_.out HW_.out (by kernel_rfl) (by kernel_rfl) ?_ ?_ ?_
  ·exact ⟨0, .bool false, by simp only [putSel, Bool.false_eq_true, if_false], BK477.out, BK478.out, BK479.out, HB.out, fun h_ => absurd h_ (by decide), fun h_ => absurd h_ (by decide), fun h_ => absurd h_ (by decide), fun h_ => absurd h_ (by decide), fun h_ => absurd h_ (by decide), fun h_ => absurd h_ (by decide), fun h_ => absurd h_ (by decide), fun h_ => absurd h_ (by decide), fun h_ => absurd h_ (by decide), fun h_ => absurd h_ (by decide), fun h_ => absurd h_ (by decide)⟩
  ·skip
   clear BK477 BK478 BK479 HB
   refine steps_cons ?_ ?_
   ·rintro b a w' ⟨gb484, m4_, ha, Q_BK477, Q_BK478, Q_BK479, Q_HB, Q_BK484, Q_GW484, Q_GE484, Q_NB477_484, Q_NB484_477, Q_NB478_484, Q_NB484_478, Q_NB479_484, Q_NB484_479, Q_BK484_e5, Q_X4_⟩ hb_ hon hoff
    refine ⟨_, rfl, fun K hK => ?_⟩
    have e2 : a.tmps[2]? = some (.pointer (some ⟨gb477, 0, none⟩)) := by rw [ha]; exact (putSel_off rfl).trans rfl
    replace ha := bA ha
    have BK477 := bA Q_BK477
    have BK478 := bA Q_BK478
    have BK479 := bA Q_BK479
    have HB := bA Q_HB
    have hc0_ : w'.cell? ⟨gb477, 0, none⟩ = some (.int .i64 a0_0) := bq BK477 0
    have hc1_ : w'.cell? ⟨gb477, 1, none⟩ = some (.int .u64 a0_1) := bq BK477 1
    refine value_ (w1 := w') (v := .agg #[.int .i64 a0_0, .int .u64 a0_1]) (by rfl) rfl ?_ ?_
    ·go_simp
     (try simp only [i64_w])
     try rfl
    refine hK.out _ _ ⟨gb484, m4_, (by rw [ha.out]; exact putSel_upk 0 hb_ rfl rfl rfl), Q_BK477, Q_BK478, Q_BK479, Q_HB, Q_BK484, Q_GW484, Q_GE484, Q_NB477_484, Q_NB484_477, Q_NB478_484, Q_NB484_478, Q_NB479_484, Q_NB484_479, fun h0_ => absurd ((hoff 5 (by kernel_rfl)).symm.trans h0_) (by decide), Q_X4_⟩
   refine steps_cons ?_ ?_
   ·rintro b a w' ⟨gb484, m4_, ha, Q_BK477, Q_BK478, Q_BK479, Q_HB, Q_BK484, Q_GW484, Q_GE484, Q_NB477_484, Q_NB484_477, Q_NB478_484, Q_NB484_478, Q_NB479_484, Q_NB484_479, Q_BK484_e5, Q_X4_⟩ hb_ hon hoff
    refine ⟨_, rfl, fun K hK => ?_⟩
    have e3 : a.tmps[3]? = some (.pointer (some ⟨gb478, 0, none⟩)) := by rw [ha]; exact (putSel_off rfl).trans rfl
    replace ha := bA ha
    have BK477 := bA Q_BK477
    have BK478 := bA Q_BK478
    have BK479 := bA Q_BK479
    have HB := bA Q_HB
    have hc0_ : w'.cell? ⟨gb478, 0, none⟩ = some (.int .i64 a1_0) := bq BK478 0
    have hc1_ : w'.cell? ⟨gb478, 1, none⟩ = some (.int .u64 a1_1) := bq BK478 1
    refine value_ (w1 := w') (v := .agg #[.int .i64 a1_0, .int .u64 a1_1]) (by rfl) rfl ?_ ?_
    ·go_simp
     (try simp only [i64_w])
     try rfl
    refine hK.out _ _ ⟨gb484, m4_, (by rw [ha.out]; exact putSel_upk 1 hb_ rfl rfl rfl), Q_BK477, Q_BK478, Q_BK479, Q_HB, Q_BK484, Q_GW484, Q_GE484, Q_NB477_484, Q_NB484_477, Q_NB478_484, Q_NB484_478, Q_NB479_484, Q_NB484_479, fun h0_ => absurd ((hoff 5 (by kernel_rfl)).symm.trans h0_) (by decide), Q_X4_⟩
   refine steps_cons ?_ ?_
   ·rintro b a w' ⟨gb484, m4_, ha, Q_BK477, Q_BK478, Q_BK479, Q_HB, Q_BK484, Q_GW484, Q_GE484, Q_NB477_484, Q_NB484_477, Q_NB478_484, Q_NB484_478, Q_NB479_484, Q_NB484_479, Q_BK484_e5, Q_X4_⟩ hb_ hon hoff
    refine ⟨_, rfl, fun K hK => ?_⟩
    have e8 : a.tmps[8]? = some (.agg #[.int .i64 a1_0, .int .u64 a1_1]) := by rw [ha]; exact putSel_on (e := (1, 8, .agg #[.int .i64 a1_0, .int .u64 a1_1])) 1 rfl rfl (hon 1 (by kernel_rfl)) rfl
    replace ha := bA ha
    have BK477 := bA Q_BK477
    have BK478 := bA Q_BK478
    have BK479 := bA Q_BK479
    have HB := bA Q_HB
    refine goes_ Try.func111 (by kernel_rfl) rfl #[.agg #[.int .i64 a1_0, .int .u64 a1_1]] (by rfl) rfl rfl (by first | (simp only [List.map_toArray, List.map_cons, List.map_nil, Act.eval, Array.getD_eq_getD_getElem?, Option.getD_some, e8]; done) | (simp only [List.map_toArray, List.map_cons, List.map_nil, Act.eval, Array.getD_eq_getD_getElem?, Option.getD_some, e8]; rfl)) ?_
    with_reducible refine (apogeeref01_Flip.calls k a1_0 a1_1 t480 t481 _ A3.out).mono ?_
    rintro e w11 ⟨rfl, hb⟩
    refine ⟨_, rfl, ?_⟩
    have n0_ := bA (bB BK477 hb)
    have n1_ := bA (bB BK478 hb)
    have n2_ := bA (bB BK479 hb)
    have n3_ := bA (bS hb)
    have z_BK484 := fun (h0_ : b 4 = true) (h1_ : b 5 = false) => (show w11.heap[gb484]? = some (.cells #[.int .i64 0, .int .u64 0] 90 (0, 0)) from by first | exact (blk_below (g := gb484) (o := .cells #[.int .i64 0, .int .u64 0] 90 (0, 0)) (by (with_reducible repeat (first | refine blk_drewN ?_ _ | refine blk_drew ?_ | refine blk_alloc ?_ _)); exact (Q_BK484 h0_ h1_)) hb))
    clear BK477
    clear BK478
    clear BK479
    clear HB
    have BK477 := n0_
    have BK478 := n1_
    have BK479 := n2_
    have HB := n3_
    clear n0_ n1_ n2_ n3_
    (try clear hb)
    refine hK.out _ _ ⟨gb484, m4_, (by rw [ha.out]; exact putSel_upk 2 hb_ rfl rfl rfl), (bP BK477), (bP BK478), (bP BK479), bX, z_BK484, Q_GW484, Q_GE484, Q_NB477_484, Q_NB484_477, Q_NB478_484, Q_NB484_478, Q_NB479_484, Q_NB484_479, fun h0_ => absurd ((hoff 5 (by kernel_rfl)).symm.trans h0_) (by decide), Q_X4_⟩
   refine steps_cons ?_ ?_
   ·rintro b a w' ⟨gb484, m4_, ha, Q_BK477, Q_BK478, Q_BK479, Q_HB, Q_BK484, Q_GW484, Q_GE484, Q_NB477_484, Q_NB484_477, Q_NB478_484, Q_NB484_478, Q_NB479_484, Q_NB484_479, Q_BK484_e5, Q_X4_⟩ hb_ hon hoff
    refine ⟨_, rfl, fun K hK => ?_⟩
    have e7 : a.tmps[7]? = some (.agg #[.int .i64 a0_0, .int .u64 a0_1]) := by rw [ha]; exact putSel_on (e := (0, 7, .agg #[.int .i64 a0_0, .int .u64 a0_1])) 0 rfl rfl (hon 0 (by kernel_rfl)) rfl
    have e9 : a.tmps[9]? = some (.agg #[.int .i64 t480, .int .u64 t481]) := by rw [ha]; exact putSel_on (e := (2, 9, .agg #[.int .i64 t480, .int .u64 t481])) 2 rfl rfl (hon 2 (by kernel_rfl)) rfl
    replace ha := bA ha
    have BK477 := bA Q_BK477
    have BK478 := bA Q_BK478
    have BK479 := bA Q_BK479
    have HB := bA Q_HB
    refine goes_ Try.func109 (by kernel_rfl) rfl #[.agg #[.int .i64 a0_0, .int .u64 a0_1], .agg #[.int .i64 t480, .int .u64 t481]] (by rfl) rfl rfl (by first | (simp only [List.map_toArray, List.map_cons, List.map_nil, Act.eval, Array.getD_eq_getD_getElem?, Option.getD_some, e7, e9]; done) | (simp only [List.map_toArray, List.map_cons, List.map_nil, Act.eval, Array.getD_eq_getD_getElem?, Option.getD_some, e7, e9]; rfl)) ?_
    with_reducible refine (apogeeref01_plus.calls k a0_0 a0_1 t480 t481 t482 t483 _ A4.out).mono ?_
    rintro e w13 ⟨rfl, hb⟩
    refine ⟨_, rfl, ?_⟩
    have n0_ := bA (bB BK477 hb)
    have n1_ := bA (bB BK478 hb)
    have n2_ := bA (bB BK479 hb)
    have n3_ := bA (bS hb)
    have z_BK484 := fun (h0_ : b 4 = true) (h1_ : b 5 = false) => (show w13.heap[gb484]? = some (.cells #[.int .i64 0, .int .u64 0] 90 (0, 0)) from by first | exact (blk_below (g := gb484) (o := .cells #[.int .i64 0, .int .u64 0] 90 (0, 0)) (by (with_reducible repeat (first | refine blk_drewN ?_ _ | refine blk_drew ?_ | refine blk_alloc ?_ _)); exact (Q_BK484 h0_ h1_)) hb))
    clear BK477
    clear BK478
    clear BK479
    clear HB
    have BK477 := n0_
    have BK478 := n1_
    have BK479 := n2_
    have HB := n3_
    clear n0_ n1_ n2_ n3_
    (try clear hb)
    refine hK.out _ _ ⟨gb484, m4_, (by rw [ha.out]; exact putSel_upk 3 hb_ rfl rfl rfl), (bP BK477), (bP BK478), (bP BK479), bX, z_BK484, Q_GW484, Q_GE484, Q_NB477_484, Q_NB484_477, Q_NB478_484, Q_NB484_478, Q_NB479_484, Q_NB484_479, fun h0_ => absurd ((hoff 5 (by kernel_rfl)).symm.trans h0_) (by decide), Q_X4_⟩
   refine steps_cons ?_ ?_
   ·rintro b a w' ⟨gb484, m4_, ha, Q_BK477, Q_BK478, Q_BK479, Q_HB, Q_BK484, Q_GW484, Q_GE484, Q_NB477_484, Q_NB484_477, Q_NB478_484, Q_NB484_478, Q_NB479_484, Q_NB484_479, Q_BK484_e5, Q_X4_⟩ hb_ hon hoff
    refine ⟨_, rfl, fun K hK => ?_⟩
    replace ha := bA ha
    have BK477 := bA Q_BK477
    have BK478 := bA Q_BK478
    have BK479 := bA Q_BK479
    have HB := bA Q_HB
    refine bT (N := 6) (cs := #[.int .i64 0, .int .u64 0]) (t := 90) ?_
    intro gb484 hg w11 hbox hb
    have BK484 := bA (hbox)
    have GW484 := bA (bZ hg)
    have GE484 := bA (bZ hg)
    have NB477_484 := bA (bL BK477 hg)
    have NB484_477 := bA (bG BK477 hg)
    have NB478_484 := bA (bL BK478 hg)
    have NB484_478 := bA (bG BK478 hg)
    have NB479_484 := bA (bL BK479 hg)
    have NB484_479 := bA (bG BK479 hg)
    replace BK477 := bA (bB BK477 hb)
    replace BK478 := bA (bB BK478 hb)
    replace BK479 := bA (bB BK479 hb)
    replace HB := bA (bS hb)
    clear hb hbox hg
    refine hK.out _ _ ⟨gb484, (.pointer (some ⟨gb484, 0, none⟩)), (by rw [ha.out]; exact putSel_upk 4 hb_ rfl rfl rfl), (bP BK477), (bP BK478), (bP BK479), bX, fun _ _ => (bP BK484), fun _ => GW484.out, fun _ => GE484.out, fun _ => NB477_484.out, fun _ => NB484_477.out, fun _ => NB478_484.out, fun _ => NB484_478.out, fun _ => NB479_484.out, fun _ => NB484_479.out, fun h0_ => absurd ((hoff 5 (by kernel_rfl)).symm.trans h0_) (by decide), fun _ => rfl⟩
   refine steps_cons ?_ ?_
   ·rintro b a w' ⟨gb484, m4_, ha, Q_BK477, Q_BK478, Q_BK479, Q_HB, Q_BK484, Q_GW484, Q_GE484, Q_NB477_484, Q_NB484_477, Q_NB478_484, Q_NB484_478, Q_NB479_484, Q_NB484_479, Q_BK484_e5, Q_X4_⟩ hb_ hon hoff
    refine ⟨_, rfl, fun K hK => ?_⟩
    have e6 : a.tmps[6]? = some (m4_) := by rw [ha]; exact putSel_on (e := (4, 6, m4_)) 4 rfl rfl (hon 4 (by kernel_rfl)) rfl
    rw [Q_X4_ (hon 4 (by kernel_rfl))] at e6
    have e10 : a.tmps[10]? = some (.agg #[.int .i64 t482, .int .u64 t483]) := by rw [ha]; exact putSel_on (e := (3, 10, .agg #[.int .i64 t482, .int .u64 t483])) 3 rfl rfl (hon 3 (by kernel_rfl)) rfl
    replace ha := bA ha
    have BK477 := bA Q_BK477
    have BK478 := bA Q_BK478
    have BK479 := bA Q_BK479
    have HB := bA Q_HB
    have BK484 := bA (Q_BK484 (hon 4 (by kernel_rfl)) hb_)
    have GW484 := bA (Q_GW484 (hon 4 (by kernel_rfl)))
    have GE484 := bA (Q_GE484 (hon 4 (by kernel_rfl)))
    have NB477_484 := bA (Q_NB477_484 (hon 4 (by kernel_rfl)))
    have NB484_477 := bA (Q_NB484_477 (hon 4 (by kernel_rfl)))
    have NB478_484 := bA (Q_NB478_484 (hon 4 (by kernel_rfl)))
    have NB484_478 := bA (Q_NB484_478 (hon 4 (by kernel_rfl)))
    have NB479_484 := bA (Q_NB479_484 (hon 4 (by kernel_rfl)))
    have NB484_479 := bA (Q_NB484_479 (hon 4 (by kernel_rfl)))
    have hs15 : w'.cell? ⟨gb484, 0, none⟩ = some (.int .i64 0) := bq BK484 0
    have hfs15 := blk_frozen BK484.out 0
    have hns15_0 := NB477_484.out
    have hns15_1 := NB478_484.out
    have hns15_2 := NB479_484.out
    have hms15_0 := NB484_477.out
    have hms15_1 := NB484_478.out
    have hms15_2 := NB484_479.out
    have hs16 : w'.cell? ⟨gb484, 1, none⟩ = some (.int .u64 0) := bq BK484 1
    have hfs16 := blk_frozen BK484.out 1
    have hns16_0 := NB477_484.out
    have hns16_1 := NB478_484.out
    have hns16_2 := NB479_484.out
    have hms16_0 := NB484_477.out
    have hms16_1 := NB484_478.out
    have hms16_2 := NB484_479.out
    refine skip_ (w1 := ?_) (by rfl) rfl ?_ ?_
    rotate_left
    ·go_simp
     rfl
    refine hK.out _ _ ⟨gb484, m4_, (by rw [ha.out]; exact putSel_none (v := undef) rfl), (by (repeat ((with_reducible repeat (first | refine blk_drewN ?_ _ | refine blk_drew ?_ | refine blk_alloc ?_ _)); refine blk_far ?_ NB477_484.out _)); (with_reducible repeat (first | refine blk_drewN ?_ _ | refine blk_drew ?_ | refine blk_alloc ?_ _)); exact BK477.out), (by (repeat ((with_reducible repeat (first | refine blk_drewN ?_ _ | refine blk_drew ?_ | refine blk_alloc ?_ _)); refine blk_far ?_ NB478_484.out _)); (with_reducible repeat (first | refine blk_drewN ?_ _ | refine blk_drew ?_ | refine blk_alloc ?_ _)); exact BK478.out), (by (repeat ((with_reducible repeat (first | refine blk_drewN ?_ _ | refine blk_drew ?_ | refine blk_alloc ?_ _)); refine blk_far ?_ NB479_484.out _)); (with_reducible repeat (first | refine blk_drewN ?_ _ | refine blk_drew ?_ | refine blk_alloc ?_ _)); exact BK479.out), bX, fun _ h1_ => absurd ((up_self b 5).symm.trans h1_) (by decide), fun _ => GW484.out, fun _ => GE484.out, fun _ => NB477_484.out, fun _ => NB484_477.out, fun _ => NB478_484.out, fun _ => NB484_478.out, fun _ => NB479_484.out, fun _ => NB484_479.out, fun _ => (by (with_reducible repeat (first | refine blk_drewN ?_ _ | refine blk_drew ?_ | refine blk_alloc ?_ _)); refine blk_put (cs := #[.int .i64 t482, .int .u64 0]) ?_ 1 _ rfl; (with_reducible repeat (first | refine blk_drewN ?_ _ | refine blk_drew ?_ | refine blk_alloc ?_ _)); refine blk_put (cs := #[.int .i64 0, .int .u64 0]) ?_ 0 _ rfl; (with_reducible repeat (first | refine blk_drewN ?_ _ | refine blk_drew ?_ | refine blk_alloc ?_ _)); exact BK484.out), Q_X4_⟩
   exact steps_nil
  rintro b a w16 hall ⟨gb484, m4_, ha, Q_BK477, Q_BK478, Q_BK479, Q_HB, Q_BK484, Q_GW484, Q_GE484, Q_NB477_484, Q_NB484_477, Q_NB478_484, Q_NB484_478, Q_NB479_484, Q_NB484_479, Q_BK484_e5, Q_X4_⟩
  clear BK477 BK478 BK479 HB
  have hb0_ := hall 0 (by kernel_rfl)
  have hb1_ := hall 1 (by kernel_rfl)
  have hb2_ := hall 2 (by kernel_rfl)
  have hb3_ := hall 3 (by kernel_rfl)
  have hb4_ := hall 4 (by kernel_rfl)
  have hb5_ := hall 5 (by kernel_rfl)
  subst ha
  obtain rfl := Q_X4_ hb4_
  simp only [putSel, hb0_, hb1_, hb2_, hb3_, hb4_, hb5_, if_true, Act.put, List.setIfInBounds_toArray, List.set_cons_zero, List.set_cons_succ]
  have BK477 := bA Q_BK477
  clear Q_BK477
  have BK478 := bA Q_BK478
  clear Q_BK478
  have BK479 := bA Q_BK479
  clear Q_BK479
  have HB := bA Q_HB
  clear Q_HB
  clear Q_BK484
  have GW484 := bA (Q_GW484 hb4_)
  clear Q_GW484
  have GE484 := bA (Q_GE484 hb4_)
  clear Q_GE484
  have NB477_484 := bA (Q_NB477_484 hb4_)
  clear Q_NB477_484
  have NB484_477 := bA (Q_NB484_477 hb4_)
  clear Q_NB484_477
  have NB478_484 := bA (Q_NB478_484 hb4_)
  clear Q_NB478_484
  have NB484_478 := bA (Q_NB484_478 hb4_)
  clear Q_NB484_478
  have NB479_484 := bA (Q_NB479_484 hb4_)
  clear Q_NB479_484
  have NB484_479 := bA (Q_NB484_479 hb4_)
  clear Q_NB484_479
  have BK484 := bA (Q_BK484_e5 hb5_)
  clear Q_BK484_e5
  clear hall hb0_ hb1_ hb2_ hb3_ hb4_ hb5_
  have hnb17 := NB477_478.out
  have hnc17 := NB478_477.out
  have hnb18 := NB477_479.out
  have hnc18 := NB479_477.out
  have hnb19 := NB477_484.out
  have hnc19 := NB484_477.out
  obtain ⟨hcz20_0, hcz20_1, hfz20_0, hfz20_1⟩ := bc2 BK477
  have hnb21 := NB478_479.out
  have hnc21 := NB479_478.out
  have hnb22 := NB478_484.out
  have hnc22 := NB484_478.out
  obtain ⟨hcz23_0, hcz23_1, hfz23_0, hfz23_1⟩ := bc2 BK478
  have hnb24 := NB484_479.out
  have hnc24 := NB479_484.out
  obtain ⟨hcz25_0, hcz25_1, hfz25_0, hfz25_1⟩ := bc2 BK484
  obtain ⟨hcz26_0, hcz26_1, hfz26_0, hfz26_1⟩ := bc2 BK479
  try go_wp2
  refine bodyPost_ret (results_ct rfl _ _ gb479 90 #[.int .i64 0, .int .u64 0] (0, 0) _ rfl (by (with_reducible repeat (first | refine blk_drewN ?_ _ | refine blk_drew ?_ | refine blk_alloc ?_ _)); refine blk_put (cs := #[.int .i64 0, .int .u64 0]) ?_ 1 _ rfl; (with_reducible repeat (first | refine blk_drewN ?_ _ | refine blk_drew ?_ | refine blk_alloc ?_ _)); refine blk_put (cs := #[.int .i64 0, .int .u64 0]) ?_ 0 _ rfl; (with_reducible repeat (first | refine blk_drewN ?_ _ | refine blk_drew ?_ | refine blk_alloc ?_ _)); exact BK479.out) Try.underlying90 rfl (by kernel_rfl)) rfl ?_
  exact bF
 rw [if_neg c6] at H
 have c6b0 : ((decide (t482 < 0)) != (decide (a0_0 < 0))) = false := by simpa using c6
 (try (have c6b1 : decide ((decide (t482 < 0)) = (decide (a0_0 < 0))) = true := by simpa using c6))
 (try (have c6b2 : ((decide (t482 < 0)) == (decide (a0_0 < 0))) = true := by simpa using c6))
 clear c6
 simp only [Option.some.injEq, Prod.mk.injEq] at H
 obtain ⟨rfl, rfl, rfl⟩ := H
 go_enter Try.func82, Try.ntmps82
 try go_wp2_with (first | ((with_reducible refine gate_dst (N := 2) rfl ?_); refine bE (N := 2) (cs := #[.int .i64 a0_0, .int .u64 a0_1]) (t := 90) ?_; intro gb477 hg w27 hbox hb; have BK477 := bA (hbox); have GW477 := bA (bZ hg); have GE477 := bA (bZ hg); replace HB := bA (bS hb); clear hb hbox hg) | ((with_reducible refine gate_dst (N := 3) rfl ?_); refine bE (N := 3) (cs := #[.int .i64 a1_0, .int .u64 a1_1]) (t := 90) ?_; intro gb478 hg w28 hbox hb; have BK478 := bA (hbox); have GW478 := bA (bZ hg); have GE478 := bA (bZ hg); have NB477_478 := bA (bL BK477 hg); have NB478_477 := bA (bG BK477 hg); replace BK477 := bA (bB BK477 hb); replace HB := bA (bS hb); clear hb hbox hg) | ((with_reducible refine gate_dst (N := 4) rfl ?_); refine bE (N := 4) (cs := #[.int .i64 0, .int .u64 0]) (t := 90) ?_; intro gb479 hg w29 hbox hb; have BK479 := bA (hbox); have GW479 := bA (bZ hg); have GE479 := bA (bZ hg); have NB477_479 := bA (bL BK477 hg); have NB479_477 := bA (bG BK477 hg); have NB478_479 := bA (bL BK478 hg); have NB479_478 := bA (bG BK478 hg); replace BK477 := bA (bB BK477 hb); replace BK478 := bA (bB BK478 hb); replace HB := bA (bS hb); clear hb hbox hg))
 replace BK477 := bA (blk_drew BK477.out)
 replace BK478 := bA (blk_drew BK478.out)
 replace BK479 := bA (blk_drew BK479.out)
 replace HB := bA (below_drew1 HB.out)
 refine start_ (n := 6) (S := fun w' => True) (ds := []) #[false, false, false, false, false, false] (by kernel_rfl) rfl rfl trivial (fun hHeld => ?_); refine with_tabW apogeeref01_Sub.tab1 apogeeref01_Sub.bits1 (fun HT_ HW_ => ?_)
 generalize w29.drew = w30 at BK477 BK478 BK479 HB hHeld ⊢
 refine inv_at [0, 1, 2, 3, 4, 5] (fun a0_ b a w' => ∃ (gb484 : Nat) (m4_ : Value), a = putSel a0_ b [(0, 7, .agg #[.int .i64 a0_0, .int .u64 a0_1]), (1, 8, .agg #[.int .i64 a1_0, .int .u64 a1_1]), (2, 9, .agg #[.int .i64 t480, .int .u64 t481]), (3, 10, .agg #[.int .i64 t482, .int .u64 t483]), (4, 6, m4_)] ∧ (w'.heap[gb477]? = some (.cells #[.int .i64 a0_0, .int .u64 a0_1] 90 (0, 0))) ∧ (w'.heap[gb478]? = some (.cells #[.int .i64 a1_0, .int .u64 a1_1] 90 (0, 0))) ∧ (w'.heap[gb479]? = some (.cells #[.int .i64 0, .int .u64 0] 90 (0, 0))) ∧ (Below w.heap.size w w') ∧ (b 4 = true → b 5 = false → w'.heap[gb484]? = some (.cells #[.int .i64 0, .int .u64 0] 90 (0, 0))) ∧ (b 4 = true → w.heap.size ≤ gb484) ∧ (b 4 = true → w.heap.size ≤ gb484) ∧ (b 4 = true → gb477 ≠ gb484) ∧ (b 4 = true → gb484 ≠ gb477) ∧ (b 4 = true → gb478 ≠ gb484) ∧ (b 4 = true → gb484 ≠ gb478) ∧ (b 4 = true → gb479 ≠ gb484) ∧ (b 4 = true → gb484 ≠ gb479) ∧ (b 5 = true → w'.heap[gb484]? = some (.cells #[.int .i64 t482, .int .u64 t483] 90 (0, 0))) ∧ (b 4 = true → (m4_ : Value) = .pointer (some ⟨gb484, 0, none⟩))) HT_.out HW_.out (by kernel_rfl) (by kernel_rfl) ?_ ?_ ?_
 ·exact ⟨0, .bool false, by simp only [putSel, Bool.false_eq_true, if_false], BK477.out, BK478.out, BK479.out, HB.out, fun h_ => absurd h_ (by decide), fun h_ => absurd h_ (by decide), fun h_ => absurd h_ (by decide), fun h_ => absurd h_ (by decide), fun h_ => absurd h_ (by decide), fun h_ => absurd h_ (by decide), fun h_ => absurd h_ (by decide), fun h_ => absurd h_ (by decide), fun h_ => absurd h_ (by decide), fun h_ => absurd h_ (by decide), fun h_ => absurd h_ (by decide)⟩
 ·skip
  clear BK477 BK478 BK479 HB
  refine steps_cons ?_ ?_
  ·rintro b a w' ⟨gb484, m4_, ha, Q_BK477, Q_BK478, Q_BK479, Q_HB, Q_BK484, Q_GW484, Q_GE484, Q_NB477_484, Q_NB484_477, Q_NB478_484, Q_NB484_478, Q_NB479_484, Q_NB484_479, Q_BK484_e5, Q_X4_⟩ hb_ hon hoff
   refine ⟨_, rfl, fun K hK => ?_⟩
   have e2 : a.tmps[2]? = some (.pointer (some ⟨gb477, 0, none⟩)) := by rw [ha]; exact (putSel_off rfl).trans rfl
   replace ha := bA ha
   have BK477 := bA Q_BK477
   have BK478 := bA Q_BK478
   have BK479 := bA Q_BK479
   have HB := bA Q_HB
   have hc0_ : w'.cell? ⟨gb477, 0, none⟩ = some (.int .i64 a0_0) := bq BK477 0
   have hc1_ : w'.cell? ⟨gb477, 1, none⟩ = some (.int .u64 a0_1) := bq BK477 1
   refine value_ (w1 := w') (v := .agg #[.int .i64 a0_0, .int .u64 a0_1]) (by rfl) rfl ?_ ?_
   ·go_simp
    (try simp only [i64_w])
    try rfl
   refine hK.out _ _ ⟨gb484, m4_, (by rw [ha.out]; exact putSel_upk 0 hb_ rfl rfl rfl), Q_BK477, Q_BK478, Q_BK479, Q_HB, Q_BK484, Q_GW484, Q_GE484, Q_NB477_484, Q_NB484_477, Q_NB478_484, Q_NB484_478, Q_NB479_484, Q_NB484_479, fun h0_ => absurd ((hoff 5 (by kernel_rfl)).symm.trans h0_) (by decide), Q_X4_⟩
  refine steps_cons ?_ ?_
  ·rintro b a w' ⟨gb484, m4_, ha, Q_BK477, Q_BK478, Q_BK479, Q_HB, Q_BK484, Q_GW484, Q_GE484, Q_NB477_484, Q_NB484_477, Q_NB478_484, Q_NB484_478, Q_NB479_484, Q_NB484_479, Q_BK484_e5, Q_X4_⟩ hb_ hon hoff
   refine ⟨_, rfl, fun K hK => ?_⟩
   have e3 : a.tmps[3]? = some (.pointer (some ⟨gb478, 0, none⟩)) := by rw [ha]; exact (putSel_off rfl).trans rfl
   replace ha := bA ha
   have BK477 := bA Q_BK477
   have BK478 := bA Q_BK478
   have BK479 := bA Q_BK479
   have HB := bA Q_HB
   have hc0_ : w'.cell? ⟨gb478, 0, none⟩ = some (.int .i64 a1_0) := bq BK478 0
   have hc1_ : w'.cell? ⟨gb478, 1, none⟩ = some (.int .u64 a1_1) := bq BK478 1
   refine value_ (w1 := w') (v := .agg #[.int .i64 a1_0, .int .u64 a1_1]) (by rfl) rfl ?_ ?_
   ·go_simp
    (try simp only [i64_w])
    try rfl
   refine hK.out _ _ ⟨gb484, m4_, (by rw [ha.out]; exact putSel_upk 1 hb_ rfl rfl rfl), Q_BK477, Q_BK478, Q_BK479, Q_HB, Q_BK484, Q_GW484, Q_GE484, Q_NB477_484, Q_NB484_477, Q_NB478_484, Q_NB484_478, Q_NB479_484, Q_NB484_479, fun h0_ => absurd ((hoff 5 (by kernel_rfl)).symm.trans h0_) (by decide), Q_X4_⟩
  refine steps_cons ?_ ?_
  ·rintro b a w' ⟨gb484, m4_, ha, Q_BK477, Q_BK478, Q_BK479, Q_HB, Q_BK484, Q_GW484, Q_GE484, Q_NB477_484, Q_NB484_477, Q_NB478_484, Q_NB484_478, Q_NB479_484, Q_NB484_479, Q_BK484_e5, Q_X4_⟩ hb_ hon hoff
   refine ⟨_, rfl, fun K hK => ?_⟩
   have e8 : a.tmps[8]? = some (.agg #[.int .i64 a1_0, .int .u64 a1_1]) := by rw [ha]; exact putSel_on (e := (1, 8, .agg #[.int .i64 a1_0, .int .u64 a1_1])) 1 rfl rfl (hon 1 (by kernel_rfl)) rfl
   replace ha := bA ha
   have BK477 := bA Q_BK477
   have BK478 := bA Q_BK478
   have BK479 := bA Q_BK479
   have HB := bA Q_HB
   refine goes_ Try.func111 (by kernel_rfl) rfl #[.agg #[.int .i64 a1_0, .int .u64 a1_1]] (by rfl) rfl rfl (by first | (simp only [List.map_toArray, List.map_cons, List.map_nil, Act.eval, Array.getD_eq_getD_getElem?, Option.getD_some, e8]; done) | (simp only [List.map_toArray, List.map_cons, List.map_nil, Act.eval, Array.getD_eq_getD_getElem?, Option.getD_some, e8]; rfl)) ?_
   with_reducible refine (apogeeref01_Flip.calls k a1_0 a1_1 t480 t481 _ A3.out).mono ?_
   rintro e w31 ⟨rfl, hb⟩
   refine ⟨_, rfl, ?_⟩
   have n0_ := bA (bB BK477 hb)
   have n1_ := bA (bB BK478 hb)
   have n2_ := bA (bB BK479 hb)
   have n3_ := bA (bS hb)
   have z_BK484 := fun (h0_ : b 4 = true) (h1_ : b 5 = false) => (show w31.heap[gb484]? = some (.cells #[.int .i64 0, .int .u64 0] 90 (0, 0)) from by first | exact (blk_below (g := gb484) (o := .cells #[.int .i64 0, .int .u64 0] 90 (0, 0)) (by (with_reducible repeat (first | refine blk_drewN ?_ _ | refine blk_drew ?_ | refine blk_alloc ?_ _)); exact (Q_BK484 h0_ h1_)) hb))
   clear BK477
   clear BK478
   clear BK479
   clear HB
   have BK477 := n0_
   have BK478 := n1_
   have BK479 := n2_
   have HB := n3_
   clear n0_ n1_ n2_ n3_
   (try clear hb)
   refine hK.out _ _ ⟨gb484, m4_, (by rw [ha.out]; exact putSel_upk 2 hb_ rfl rfl rfl), (bP BK477), (bP BK478), (bP BK479), bX, z_BK484, Q_GW484, Q_GE484, Q_NB477_484, Q_NB484_477, Q_NB478_484, Q_NB484_478, Q_NB479_484, Q_NB484_479, fun h0_ => absurd ((hoff 5 (by kernel_rfl)).symm.trans h0_) (by decide), Q_X4_⟩
  refine steps_cons ?_ ?_
  ·rintro b a w' ⟨gb484, m4_, ha, Q_BK477, Q_BK478, Q_BK479, Q_HB, Q_BK484, Q_GW484, Q_GE484, Q_NB477_484, Q_NB484_477, Q_NB478_484, Q_NB484_478, Q_NB479_484, Q_NB484_479, Q_BK484_e5, Q_X4_⟩ hb_ hon hoff
   refine ⟨_, rfl, fun K hK => ?_⟩
   have e7 : a.tmps[7]? = some (.agg #[.int .i64 a0_0, .int .u64 a0_1]) := by rw [ha]; exact putSel_on (e := (0, 7, .agg #[.int .i64 a0_0, .int .u64 a0_1])) 0 rfl rfl (hon 0 (by kernel_rfl)) rfl
   have e9 : a.tmps[9]? = some (.agg #[.int .i64 t480, .int .u64 t481]) := by rw [ha]; exact putSel_on (e := (2, 9, .agg #[.int .i64 t480, .int .u64 t481])) 2 rfl rfl (hon 2 (by kernel_rfl)) rfl
   replace ha := bA ha
   have BK477 := bA Q_BK477
   have BK478 := bA Q_BK478
   have BK479 := bA Q_BK479
   have HB := bA Q_HB
   refine goes_ Try.func109 (by kernel_rfl) rfl #[.agg #[.int .i64 a0_0, .int .u64 a0_1], .agg #[.int .i64 t480, .int .u64 t481]] (by rfl) rfl rfl (by first | (simp only [List.map_toArray, List.map_cons, List.map_nil, Act.eval, Array.getD_eq_getD_getElem?, Option.getD_some, e7, e9]; done) | (simp only [List.map_toArray, List.map_cons, List.map_nil, Act.eval, Array.getD_eq_getD_getElem?, Option.getD_some, e7, e9]; rfl)) ?_
   with_reducible refine (apogeeref01_plus.calls k a0_0 a0_1 t480 t481 t482 t483 _ A4.out).mono ?_
   rintro e w33 ⟨rfl, hb⟩
   refine ⟨_, rfl, ?_⟩
   have n0_ := bA (bB BK477 hb)
   have n1_ := bA (bB BK478 hb)
   have n2_ := bA (bB BK479 hb)
   have n3_ := bA (bS hb)
   have z_BK484 := fun (h0_ : b 4 = true) (h1_ : b 5 = false) => (show w33.heap[gb484]? = some (.cells #[.int .i64 0, .int .u64 0] 90 (0, 0)) from by first | exact (blk_below (g := gb484) (o := .cells #[.int .i64 0, .int .u64 0] 90 (0, 0)) (by (with_reducible repeat (first | refine blk_drewN ?_ _ | refine blk_drew ?_ | refine blk_alloc ?_ _)); exact (Q_BK484 h0_ h1_)) hb))
   clear BK477
   clear BK478
   clear BK479
   clear HB
   have BK477 := n0_
   have BK478 := n1_
   have BK479 := n2_
   have HB := n3_
   clear n0_ n1_ n2_ n3_
   (try clear hb)
   refine hK.out _ _ ⟨gb484, m4_, (by rw [ha.out]; exact putSel_upk 3 hb_ rfl rfl rfl), (bP BK477), (bP BK478), (bP BK479), bX, z_BK484, Q_GW484, Q_GE484, Q_NB477_484, Q_NB484_477, Q_NB478_484, Q_NB484_478, Q_NB479_484, Q_NB484_479, fun h0_ => absurd ((hoff 5 (by kernel_rfl)).symm.trans h0_) (by decide), Q_X4_⟩
  refine steps_cons ?_ ?_
  ·rintro b a w' ⟨gb484, m4_, ha, Q_BK477, Q_BK478, Q_BK479, Q_HB, Q_BK484, Q_GW484, Q_GE484, Q_NB477_484, Q_NB484_477, Q_NB478_484, Q_NB484_478, Q_NB479_484, Q_NB484_479, Q_BK484_e5, Q_X4_⟩ hb_ hon hoff
   refine ⟨_, rfl, fun K hK => ?_⟩
   replace ha := bA ha
   have BK477 := bA Q_BK477
   have BK478 := bA Q_BK478
   have BK479 := bA Q_BK479
   have HB := bA Q_HB
   refine bT (N := 6) (cs := #[.int .i64 0, .int .u64 0]) (t := 90) ?_
   intro gb484 hg w31 hbox hb
   have BK484 := bA (hbox)
   have GW484 := bA (bZ hg)
   have GE484 := bA (bZ hg)
   have NB477_484 := bA (bL BK477 hg)
   have NB484_477 := bA (bG BK477 hg)
   have NB478_484 := bA (bL BK478 hg)
   have NB484_478 := bA (bG BK478 hg)
   have NB479_484 := bA (bL BK479 hg)
   have NB484_479 := bA (bG BK479 hg)
   replace BK477 := bA (bB BK477 hb)
   replace BK478 := bA (bB BK478 hb)
   replace BK479 := bA (bB BK479 hb)
   replace HB := bA (bS hb)
   clear hb hbox hg
   refine hK.out _ _ ⟨gb484, (.pointer (some ⟨gb484, 0, none⟩)), (by rw [ha.out]; exact putSel_upk 4 hb_ rfl rfl rfl), (bP BK477), (bP BK478), (bP BK479), bX, fun _ _ => (bP BK484), fun _ => GW484.out, fun _ => GE484.out, fun _ => NB477_484.out, fun _ => NB484_477.out, fun _ => NB478_484.out, fun _ => NB484_478.out, fun _ => NB479_484.out, fun _ => NB484_479.out, fun h0_ => absurd ((hoff 5 (by kernel_rfl)).symm.trans h0_) (by decide), fun _ => rfl⟩
  refine steps_cons ?_ ?_
  ·rintro b a w' ⟨gb484, m4_, ha, Q_BK477, Q_BK478, Q_BK479, Q_HB, Q_BK484, Q_GW484, Q_GE484, Q_NB477_484, Q_NB484_477, Q_NB478_484, Q_NB484_478, Q_NB479_484, Q_NB484_479, Q_BK484_e5, Q_X4_⟩ hb_ hon hoff
   refine ⟨_, rfl, fun K hK => ?_⟩
   have e6 : a.tmps[6]? = some (m4_) := by rw [ha]; exact putSel_on (e := (4, 6, m4_)) 4 rfl rfl (hon 4 (by kernel_rfl)) rfl
   rw [Q_X4_ (hon 4 (by kernel_rfl))] at e6
   have e10 : a.tmps[10]? = some (.agg #[.int .i64 t482, .int .u64 t483]) := by rw [ha]; exact putSel_on (e := (3, 10, .agg #[.int .i64 t482, .int .u64 t483])) 3 rfl rfl (hon 3 (by kernel_rfl)) rfl
   replace ha := bA ha
   have BK477 := bA Q_BK477
   have BK478 := bA Q_BK478
   have BK479 := bA Q_BK479
   have HB := bA Q_HB
   have BK484 := bA (Q_BK484 (hon 4 (by kernel_rfl)) hb_)
   have GW484 := bA (Q_GW484 (hon 4 (by kernel_rfl)))
   have GE484 := bA (Q_GE484 (hon 4 (by kernel_rfl)))
   have NB477_484 := bA (Q_NB477_484 (hon 4 (by kernel_rfl)))
   have NB484_477 := bA (Q_NB484_477 (hon 4 (by kernel_rfl)))
   have NB478_484 := bA (Q_NB478_484 (hon 4 (by kernel_rfl)))
   have NB484_478 := bA (Q_NB484_478 (hon 4 (by kernel_rfl)))
   have NB479_484 := bA (Q_NB479_484 (hon 4 (by kernel_rfl)))
   have NB484_479 := bA (Q_NB484_479 (hon 4 (by kernel_rfl)))
   have hs35 : w'.cell? ⟨gb484, 0, none⟩ = some (.int .i64 0) := bq BK484 0
   have hfs35 := blk_frozen BK484.out 0
   have hns35_0 := NB477_484.out
   have hns35_1 := NB478_484.out
   have hns35_2 := NB479_484.out
   have hms35_0 := NB484_477.out
   have hms35_1 := NB484_478.out
   have hms35_2 := NB484_479.out
   have hs36 : w'.cell? ⟨gb484, 1, none⟩ = some (.int .u64 0) := bq BK484 1
   have hfs36 := blk_frozen BK484.out 1
   have hns36_0 := NB477_484.out
   have hns36_1 := NB478_484.out
   have hns36_2 := NB479_484.out
   have hms36_0 := NB484_477.out
   have hms36_1 := NB484_478.out
   have hms36_2 := NB484_479.out
   refine skip_ (w1 := ?_) (by rfl) rfl ?_ ?_
   rotate_left
   ·go_simp
    rfl
   refine hK.out _ _ ⟨gb484, m4_, (by rw [ha.out]; exact putSel_none (v := undef) rfl), (by (repeat ((with_reducible repeat (first | refine blk_drewN ?_ _ | refine blk_drew ?_ | refine blk_alloc ?_ _)); refine blk_far ?_ NB477_484.out _)); (with_reducible repeat (first | refine blk_drewN ?_ _ | refine blk_drew ?_ | refine blk_alloc ?_ _)); exact BK477.out), (by (repeat ((with_reducible repeat (first | refine blk_drewN ?_ _ | refine blk_drew ?_ | refine blk_alloc ?_ _)); refine blk_far ?_ NB478_484.out _)); (with_reducible repeat (first | refine blk_drewN ?_ _ | refine blk_drew ?_ | refine blk_alloc ?_ _)); exact BK478.out), (by (repeat ((with_reducible repeat (first | refine blk_drewN ?_ _ | refine blk_drew ?_ | refine blk_alloc ?_ _)); refine blk_far ?_ NB479_484.out _)); (with_reducible repeat (first | refine blk_drewN ?_ _ | refine blk_drew ?_ | refine blk_alloc ?_ _)); exact BK479.out), bX, fun _ h1_ => absurd ((up_self b 5).symm.trans h1_) (by decide), fun _ => GW484.out, fun _ => GE484.out, fun _ => NB477_484.out, fun _ => NB484_477.out, fun _ => NB478_484.out, fun _ => NB484_478.out, fun _ => NB479_484.out, fun _ => NB484_479.out, fun _ => (by (with_reducible repeat (first | refine blk_drewN ?_ _ | refine blk_drew ?_ | refine blk_alloc ?_ _)); refine blk_put (cs := #[.int .i64 t482, .int .u64 0]) ?_ 1 _ rfl; (with_reducible repeat (first | refine blk_drewN ?_ _ | refine blk_drew ?_ | refine blk_alloc ?_ _)); refine blk_put (cs := #[.int .i64 0, .int .u64 0]) ?_ 0 _ rfl; (with_reducible repeat (first | refine blk_drewN ?_ _ | refine blk_drew ?_ | refine blk_alloc ?_ _)); exact BK484.out), Q_X4_⟩
  exact steps_nil
 rintro b a w36 hall ⟨gb484, m4_, ha, Q_BK477, Q_BK478, Q_BK479, Q_HB, Q_BK484, Q_GW484, Q_GE484, Q_NB477_484, Q_NB484_477, Q_NB478_484, Q_NB484_478, Q_NB479_484, Q_NB484_479, Q_BK484_e5, Q_X4_⟩
 clear BK477 BK478 BK479 HB
 have hb0_ := hall 0 (by kernel_rfl)
 have hb1_ := hall 1 (by kernel_rfl)
 have hb2_ := hall 2 (by kernel_rfl)
 have hb3_ := hall 3 (by kernel_rfl)
 have hb4_ := hall 4 (by kernel_rfl)
 have hb5_ := hall 5 (by kernel_rfl)
 subst ha
 obtain rfl := Q_X4_ hb4_
 simp only [putSel, hb0_, hb1_, hb2_, hb3_, hb4_, hb5_, if_true, Act.put, List.setIfInBounds_toArray, List.set_cons_zero, List.set_cons_succ]
 have BK477 := bA Q_BK477
 clear Q_BK477
 have BK478 := bA Q_BK478
 clear Q_BK478
 have BK479 := bA Q_BK479
 clear Q_BK479
 have HB := bA Q_HB
 clear Q_HB
 clear Q_BK484
 have GW484 := bA (Q_GW484 hb4_)
 clear Q_GW484
 have GE484 := bA (Q_GE484 hb4_)
 clear Q_GE484
 have NB477_484 := bA (Q_NB477_484 hb4_)
 clear Q_NB477_484
 have NB484_477 := bA (Q_NB484_477 hb4_)
 clear Q_NB484_477
 have NB478_484 := bA (Q_NB478_484 hb4_)
 clear Q_NB478_484
 have NB484_478 := bA (Q_NB484_478 hb4_)
 clear Q_NB484_478
 have NB479_484 := bA (Q_NB479_484 hb4_)
 clear Q_NB479_484
 have NB484_479 := bA (Q_NB484_479 hb4_)
 clear Q_NB484_479
 have BK484 := bA (Q_BK484_e5 hb5_)
 clear Q_BK484_e5
 clear hall hb0_ hb1_ hb2_ hb3_ hb4_ hb5_
 have hnb37 := NB477_478.out
 have hnc37 := NB478_477.out
 have hnb38 := NB477_479.out
 have hnc38 := NB479_477.out
 have hnb39 := NB477_484.out
 have hnc39 := NB484_477.out
 obtain ⟨hcz40_0, hcz40_1, hfz40_0, hfz40_1⟩ := bc2 BK477
 have hnb41 := NB478_479.out
 have hnc41 := NB479_478.out
 have hnb42 := NB478_484.out
 have hnc42 := NB484_478.out
 obtain ⟨hcz43_0, hcz43_1, hfz43_0, hfz43_1⟩ := bc2 BK478
 have hnb44 := NB484_479.out
 have hnc44 := NB479_484.out
 obtain ⟨hcz45_0, hcz45_1, hfz45_0, hfz45_1⟩ := bc2 BK484
 obtain ⟨hcz46_0, hcz46_1, hfz46_0, hfz46_1⟩ := bc2 BK479
 try go_wp2
 refine bodyPost_ret (results_ct rfl _ _ gb479 90 #[.int .i64 t482, .int .u64 t483] (0, 0) _ rfl (by (with_reducible repeat (first | refine blk_drewN ?_ _ | refine blk_drew ?_ | refine blk_alloc ?_ _)); refine blk_put (cs := #[.int .i64 t482, .int .u64 0]) ?_ 1 _ rfl; (with_reducible repeat (first | refine blk_drewN ?_ _ | refine blk_drew ?_ | refine blk_alloc ?_ _)); refine blk_put (cs := #[.int .i64 0, .int .u64 0]) ?_ 0 _ rfl; (with_reducible repeat (first | refine blk_drewN ?_ _ | refine blk_drew ?_ | refine blk_alloc ?_ _)); exact BK479.out) Try.underlying90 rfl (by kernel_rfl)) rfl ?_
 exact bF
end Go.Proofs.Ytjmibjmlihmglaa.G
