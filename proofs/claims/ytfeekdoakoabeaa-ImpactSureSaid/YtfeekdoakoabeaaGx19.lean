-- Written by a program of this session out of the translation; Lean checks it.
import Derived.Test.YtfeekdoakoabeaaGx0
import Derived.Test.YtfeekdoakoabeaaGx4
import Derived.Test.YtfeekdoakoabeaaGx17
import Derived.Test.YtfeekdoakoabeaaGx18
namespace Go.Proofs.Ytfeekdoakoabeaa.G
open Go.RowKit Go.Proofs.YtfeekdoakoabeaaW.PrintWords Go.Proofs.YtfeekdoakoabeaaW.PrintLast Go.Proofs.YtfeekdoakoabeaaW.PrintMore
attribute [local go_sem] max2_int min2_int max_two min_two max_three min_three max_four min_four   -- for this text's walks alone
set_option linter.unusedVariables false
set_option linter.unusedSimpArgs false

attribute [local go_sem high] eqA112
/-! ### apogeeref01_Cmp: function 88 -/
def apogeeref01_Cmp.j0 : Nat → Bool → Int → Int → Int → Int → Option (Int)
 | 0, _, _, _, _, _ => none
 | k + 1, x5, x441000, x441001, x442000, x442001 => if x5 = true then (some (-1)) else (if (x441000 == x442000 && (x441001 == x442001)) = true then (some 0) else (some 1))
def apogeeref01_Cmp.f (k : Nat) (a0_0 : Int) (a0_1 : Int) (a1_0 : Int) (a1_1 : Int) : Option (Int) := if a0_0 < a1_0 then (apogeeref01_Cmp.j0 k true a0_0 a0_1 a1_0 a1_1) else (if a0_0 = a1_0 then (apogeeref01_Cmp.j0 k (decide (a0_1 < a1_1)) a0_0 a0_1 a1_0 a1_1) else (apogeeref01_Cmp.j0 k false a0_0 a0_1 a1_0 a1_1))
theorem apogeeref01_Cmp.mono_l : ∀ k, (∀ y0 y1 y2 y3 y4, LeO (apogeeref01_Cmp.j0 k y0 y1 y2 y3 y4) (apogeeref01_Cmp.j0 (k + 1) y0 y1 y2 y3 y4))
 | 0 => fun _ _ _ _ _ r h => by simp [apogeeref01_Cmp.j0] at h
 | k + 1 => by
  have ih0 := apogeeref01_Cmp.mono_l k
  ·intro y0 y1 y2 y3 y4
   unfold apogeeref01_Cmp.j0
   exact bMo
theorem apogeeref01_Cmp.mono : ∀ a0 a1 a2 a3 k, LeO (apogeeref01_Cmp.f k a0 a1 a2 a3) (apogeeref01_Cmp.f (k + 1) a0 a1 a2 a3) := by
 intro a0 a1 a2 a3 k
 have ih0 := apogeeref01_Cmp.mono_l k
 unfold apogeeref01_Cmp.f
 exact bMo
set_option maxHeartbeats 8000000 in
set_option maxRecDepth 100000 in
theorem apogeeref01_Cmp.calls (k : Nat) (a0_0 : Int) (a0_1 : Int) (a1_0 : Int) (a1_1 : Int) (r : Int) (w : World) (h : apogeeref01_Cmp.f k a0_0 a0_1 a1_0 a1_1 = some r) :
  Calls Try.prog 88 #[.agg #[.int .i64 a0_0, .int .u64 a0_1], .agg #[.int .i64 a1_0, .int .u64 a1_1]] w fun e w' => e = .returned (.int .i64 r) ∧ Below w.heap.size w w' := by
 have hu112 := Try.underlying112
 have HB := bA (Below.refl w.heap.size w)
 have H : (if a0_0 < a1_0 then (apogeeref01_Cmp.j0 k true a0_0 a0_1 a1_0 a1_1) else (if a0_0 = a1_0 then (apogeeref01_Cmp.j0 k (decide (a0_1 < a1_1)) a0_0 a0_1 a1_0 a1_1) else (apogeeref01_Cmp.j0 k false a0_0 a0_1 a1_0 a1_1))) = some r := h
 clear h
 have HC3 := bA H
 clear H
 go_enter Try.func88, Try.ntmps88
 go_upto_region 1 with (first | ((with_reducible refine gate_dst (N := 2) rfl ?_); refine bE (N := 2) (cs := #[.int .i64 a0_0, .int .u64 a0_1]) (t := 112) ?_; intro gb440 hg w4 hbox hb; have n0_ := bA (bS hb); have n1_ := bA (hbox); have n2_ := bA (bZ hg); have n3_ := bA (bZ hg); clear HB; have HB := n0_; have BK440 := n1_; have GW440 := n2_; have GE440 := n3_; clear n0_ n1_ n2_ n3_; clear hb hbox hg) | ((with_reducible refine gate_dst (N := 3) rfl ?_); refine bE (N := 3) (cs := #[.int .i64 a1_0, .int .u64 a1_1]) (t := 112) ?_; intro gb441 hg w5 hbox hb; have n0_ := bA (bB BK440 hb); have n1_ := bA (bS hb); have n2_ := bA (hbox); have n3_ := bA (bZ hg); have n4_ := bA (bZ hg); have n5_ := bA (bL BK440 hg); have n6_ := bA (bG BK440 hg); clear BK440; clear HB; have BK440 := n0_; have HB := n1_; have BK441 := n2_; have GW441 := n3_; have GE441 := n4_; have NB440_441 := n5_; have NB441_440 := n6_; clear n0_ n1_ n2_ n3_ n4_ n5_ n6_; clear hb hbox hg))
 (try simp only [Act.put, List.setIfInBounds_toArray, List.set_cons_zero, List.set_cons_succ])
 go_cut [5] (fun v5 wc => ∃ (kq : Nat) (x5_2 : Bool), v5 = .bool x5_2 ∧ Aside0 (apogeeref01_Cmp.j0 kq x5_2 a0_0 a0_1 a1_0 a1_1 = some r) ∧ Aside0 (kq ≤ k) ∧ Aside0 (wc.heap[gb440]? = some (.cells #[.int .i64 a0_0, .int .u64 a0_1] 112 (0, 0))) ∧ Aside0 (wc.heap[gb441]? = some (.cells #[.int .i64 a1_0, .int .u64 a1_1] 112 (0, 0))) ∧ Aside0 (Below w.heap.size w wc))
 case first =>
  have H := HC3.out
  clear HC3
  by_cases c6 : a0_0 < a1_0
  rw [if_pos c6] at H
  have c6b0 : decide (a0_0 < a1_0) = true := decide_eq_true c6
  clear c6
  (first | rw [c6b0] | (simp only [i64_w, i32_w]; rw [c6b0]) | skip)
  have H' := bA H
  clear H
  have hnb7 := NB440_441.out
  have hnc7 := NB441_440.out
  obtain ⟨hcz8_0, hcz8_1, hfz8_0, hfz8_1⟩ := bc2 BK440
  obtain ⟨hcz9_0, hcz9_1, hfz9_0, hfz9_1⟩ := bc2 BK441
  rotate_left
  rw [if_neg c6] at H
  have c6b0 : decide (a0_0 < a1_0) = false := decide_eq_false c6
  clear c6
  (first | rw [c6b0] | (simp only [i64_w, i32_w]; rw [c6b0]) | skip)
  by_cases c10 : a0_0 = a1_0
  rw [if_pos c10] at H
  have c10b0 : (a0_0 == a1_0) = true := beq_iff_eq.mpr c10
  have c10b1 : (a0_0 != a1_0) = false := bne_eq_false_iff_eq.mpr c10
  clear c10
  have H' := bA H
  clear H
  have hnb11 := NB440_441.out
  have hnc11 := NB441_440.out
  obtain ⟨hcz12_0, hcz12_1, hfz12_0, hfz12_1⟩ := bc2 BK440
  obtain ⟨hcz13_0, hcz13_1, hfz13_0, hfz13_1⟩ := bc2 BK441
  rotate_left
  rw [if_neg c10] at H
  have c10b0 : (a0_0 == a1_0) = false := beq_eq_false_iff_ne.mpr c10
  have c10b1 : (a0_0 != a1_0) = true := bne_iff_ne.mpr c10
  have H' := bA H
  clear H
  have hnb14 := NB440_441.out
  have hnc14 := NB441_440.out
  obtain ⟨hcz15_0, hcz15_1, hfz15_0, hfz15_1⟩ := bc2 BK440
  obtain ⟨hcz16_0, hcz16_1, hfz16_0, hfz16_1⟩ := bc2 BK441
  rotate_left
  all_goals go_wp2
  ·go_meet
   case rel => exact ⟨_, (true), bs, H', ⟨by first | omega | exact Nat.le_refl _⟩, ⟨by (with_reducible repeat (first | refine blk_drewN ?_ _ | refine blk_drew ?_ | refine blk_alloc ?_ _)); exact BK440.out⟩, ⟨by (with_reducible repeat (first | refine blk_drewN ?_ _ | refine blk_drew ?_ | refine blk_alloc ?_ _)); exact BK441.out⟩, ⟨bX⟩⟩
  ·go_meet
   case rel => exact ⟨_, (decide (a0_1 < a1_1)), bs, H', ⟨by first | omega | exact Nat.le_refl _⟩, ⟨by (with_reducible repeat (first | refine blk_drewN ?_ _ | refine blk_drew ?_ | refine blk_alloc ?_ _)); exact BK440.out⟩, ⟨by (with_reducible repeat (first | refine blk_drewN ?_ _ | refine blk_drew ?_ | refine blk_alloc ?_ _)); exact BK441.out⟩, ⟨bX⟩⟩
  go_meet
  case rel => exact ⟨_, (false), bs, H', ⟨by first | omega | exact Nat.le_refl _⟩, ⟨by (with_reducible repeat (first | refine blk_drewN ?_ _ | refine blk_drew ?_ | refine blk_alloc ?_ _)); exact BK440.out⟩, ⟨by (with_reducible repeat (first | refine blk_drewN ?_ _ | refine blk_drew ?_ | refine blk_alloc ?_ _)); exact BK441.out⟩, ⟨bX⟩⟩
 clear HC3
 try clear c1
 try clear p2
 try clear c6
 try clear c6b0
 try clear c7
 try clear c8
 try clear c10
 try clear c10b0
 try clear c10b1
 try clear c11
 try clear c14
 try clear hcz12_0
 try clear hcz12_1
 try clear hcz13_0
 try clear hcz13_1
 try clear hcz15_0
 try clear hcz15_1
 try clear hcz16_0
 try clear hcz16_1
 try clear hcz8_0
 try clear hcz8_1
 try clear hcz9_0
 try clear hcz9_1
 try clear hfz12_0
 try clear hfz12_1
 try clear hfz13_0
 try clear hfz13_1
 try clear hfz15_0
 try clear hfz15_1
 try clear hfz16_0
 try clear hfz16_1
 try clear hfz8_0
 try clear hfz8_1
 try clear hfz9_0
 try clear hfz9_1
 obtain ⟨kq, x5_2, rfl, HA, HJ2, BK440, BK441, HB⟩ := hcut
 cases kq with
 | zero => exact absurd HA.out (by simp [apogeeref01_Cmp.j0])
 | succ kj2 =>
  have H := HA.out
  clear HA
  simp only [apogeeref01_Cmp.j0] at H
  by_cases c17 : x5_2 = true
  subst c17
  rw [if_pos rfl] at H
  obtain rfl := Option.some.inj H
  rotate_left
  replace c17 := Bool.eq_false_iff.mpr c17
  subst c17
  rw [if_neg bn] at H
  by_cases c18 : (a0_0 == a1_0 && (a0_1 == a1_1)) = true
  rw [if_pos c18] at H
  have c18b0 : (a0_0 == a1_0 && (a0_1 == a1_1)) = true := c18
  (try (have c18b1 : decide (a0_0 = a1_0 && (a0_1 == a1_1)) = true := by simpa using c18))
  (try (have c18b2 : (a0_0 == a1_0 && (a0_1 == a1_1)) = true := by simpa using c18))
  clear c18
  obtain rfl := Option.some.inj H
  have hnb19 := NB440_441.out
  have hnc19 := NB441_440.out
  obtain ⟨hcz20_0, hcz20_1, hfz20_0, hfz20_1⟩ := bc2 BK440
  obtain ⟨hcz21_0, hcz21_1, hfz21_0, hfz21_1⟩ := bc2 BK441
  rotate_left
  rw [if_neg c18] at H
  have c18b0 : (a0_0 == a1_0 && (a0_1 == a1_1)) = false := by simpa using c18
  (try (have c18b1 : decide (a0_0 = a1_0 && (a0_1 == a1_1)) = false := by simpa using c18))
  (try (have c18b2 : (a0_0 == a1_0 && (a0_1 == a1_1)) = false := by simpa using c18))
  (try (have c18b3 : ¬ (a0_0 = a1_0 && (a0_1 == a1_1)) := by simpa using c18))
  clear c18
  obtain rfl := Option.some.inj H
  have hnb22 := NB440_441.out
  have hnc22 := NB441_440.out
  obtain ⟨hcz23_0, hcz23_1, hfz23_0, hfz23_1⟩ := bc2 BK440
  obtain ⟨hcz24_0, hcz24_1, hfz24_0, hfz24_1⟩ := bc2 BK441
  rotate_left
  all_goals go_wp2
  all_goals (go_ret; exact bF)
/-! ### apogeeref10_Turn: function 78 -/
mutual
def apogeeref10_Turn.j0 : Nat → Bool → Int → Int → Int → Int → Int → Int → Option (Int)
 | 0, _, _, _, _, _, _, _ => none
 | k + 1, x23, x443000, x443001, x444000, x444001, x445000, x445001 => if x23 = true then (some 0) else ((apogeeref10_short.f (wrap64 (x444000 - x443000))).bind fun t448 => (if t448 = true then ((apogeeref10_short.f (wrap64 (x445001 - x443001))).bind fun t449 => (if t449 = true then ((apogeeref10_short.f (wrap64 (x444001 - x443001))).bind fun t450 => (if t450 = true then ((apogeeref10_short.f (wrap64 (x445000 - x443000))).bind fun t451 => (apogeeref10_Turn.j1 k (wrap64 (x444000 - x443000)) (wrap64 (x445001 - x443001)) (wrap64 (x444001 - x443001)) (wrap64 (x445000 - x443000)) t451)) else (apogeeref10_Turn.j1 k (wrap64 (x444000 - x443000)) (wrap64 (x445001 - x443001)) (wrap64 (x444001 - x443001)) (wrap64 (x445000 - x443000)) false))) else (apogeeref10_Turn.j1 k (wrap64 (x444000 - x443000)) (wrap64 (x445001 - x443001)) (wrap64 (x444001 - x443001)) (wrap64 (x445000 - x443000)) false))) else (apogeeref10_Turn.j1 k (wrap64 (x444000 - x443000)) (wrap64 (x445001 - x443001)) (wrap64 (x444001 - x443001)) (wrap64 (x445000 - x443000)) false)))
def apogeeref10_Turn.j1 : Nat → Int → Int → Int → Int → Bool → Option (Int)
 | 0, _, _, _, _, _ => none
 | k + 1, x7, x8, x9, x10, x57 => if x57 = true then (if (wrap64 (x7 * x8)) < (wrap64 (x9 * x10)) then (some (-1)) else (if (wrap64 (x7 * x8)) > (wrap64 (x9 * x10)) then (some 1) else (some 0))) else ((apogeeref01_Mul.f k x7 x8).bind fun bt452 => ((apogeeref01_Mul.f k x9 x10).bind fun bt454 => ((apogeeref01_Cmp.f k bt452.1 bt452.2 bt454.1 bt454.2).bind fun t456 => (some t456))))
end
def apogeeref10_Turn.f (k : Nat) (a0_0 : Int) (a0_1 : Int) (a1_0 : Int) (a1_1 : Int) (a2_0 : Int) (a2_1 : Int) : Option (Int) := (apogeeref10_Right.f a0_0 a0_1).bind fun t445 => (if t445 = true then ((apogeeref10_Right.f a1_0 a1_1).bind fun t446 => (if t446 = true then ((apogeeref10_Right.f a2_0 a2_1).bind fun t447 => (apogeeref10_Turn.j0 k (!t447) a0_0 a0_1 a1_0 a1_1 a2_0 a2_1)) else (apogeeref10_Turn.j0 k true a0_0 a0_1 a1_0 a1_1 a2_0 a2_1))) else (apogeeref10_Turn.j0 k true a0_0 a0_1 a1_0 a1_1 a2_0 a2_1))
theorem apogeeref10_Turn.mono_l : ∀ k, (∀ y0 y1 y2 y3 y4 y5 y6, LeO (apogeeref10_Turn.j0 k y0 y1 y2 y3 y4 y5 y6) (apogeeref10_Turn.j0 (k + 1) y0 y1 y2 y3 y4 y5 y6)) ∧ (∀ y0 y1 y2 y3 y4, LeO (apogeeref10_Turn.j1 k y0 y1 y2 y3 y4) (apogeeref10_Turn.j1 (k + 1) y0 y1 y2 y3 y4))
 | 0 => ⟨fun _ _ _ _ _ _ _ r h => by simp [apogeeref10_Turn.j0] at h, fun _ _ _ _ _ r h => by simp [apogeeref10_Turn.j1] at h⟩
 | k + 1 => by
  obtain ⟨ih0, ih1⟩ := apogeeref10_Turn.mono_l k
  refine ⟨?_, ?_⟩
  ·intro y0 y1 y2 y3 y4 y5 y6
   unfold apogeeref10_Turn.j0
   have m0_ := @apogeeref01_Cmp.mono
   have m1_ := @apogeeref01_Mul.mono
   exact bMo
  ·intro y0 y1 y2 y3 y4
   unfold apogeeref10_Turn.j1
   have m0_ := @apogeeref01_Cmp.mono
   have m1_ := @apogeeref01_Mul.mono
   exact bMo
theorem apogeeref10_Turn.mono : ∀ a0 a1 a2 a3 a4 a5 k, LeO (apogeeref10_Turn.f k a0 a1 a2 a3 a4 a5) (apogeeref10_Turn.f (k + 1) a0 a1 a2 a3 a4 a5) := by
 intro a0 a1 a2 a3 a4 a5 k
 obtain ⟨ih0, ih1⟩ := apogeeref10_Turn.mono_l k
 unfold apogeeref10_Turn.f
 have m0_ := @apogeeref01_Cmp.mono
 have m1_ := @apogeeref01_Mul.mono
 exact bMo
set_option maxHeartbeats 8000000 in
set_option maxRecDepth 100000 in
theorem apogeeref10_Turn.calls (k : Nat) (a0_0 : Int) (a0_1 : Int) (a1_0 : Int) (a1_1 : Int) (a2_0 : Int) (a2_1 : Int) (r : Int) (w : World) (h : apogeeref10_Turn.f k a0_0 a0_1 a1_0 a1_1 a2_0 a2_1 = some r) :
  Calls Try.prog 78 #[.agg #[.int .i64 a0_0, .int .i64 a0_1], .agg #[.int .i64 a1_0, .int .i64 a1_1], .agg #[.int .i64 a2_0, .int .i64 a2_1]] w fun e w' => e = .returned (.int .i64 r) ∧ Below w.heap.size w w' := by
 have hu28 := Try.underlying28
 have HB := bA (Below.refl w.heap.size w)
 have H : ((apogeeref10_Right.f a0_0 a0_1).bind fun t445 => (if t445 = true then ((apogeeref10_Right.f a1_0 a1_1).bind fun t446 => (if t446 = true then ((apogeeref10_Right.f a2_0 a2_1).bind fun t447 => (apogeeref10_Turn.j0 k (!t447) a0_0 a0_1 a1_0 a1_1 a2_0 a2_1)) else (apogeeref10_Turn.j0 k true a0_0 a0_1 a1_0 a1_1 a2_0 a2_1))) else (apogeeref10_Turn.j0 k true a0_0 a0_1 a1_0 a1_1 a2_0 a2_1))) = some r := h
 clear h
 have HC4 := bA H
 clear H
 go_enter Try.func78, Try.ntmps78
 go_upto_region 1 with (first | ((with_reducible refine gate_dst (N := 3) rfl ?_); refine bE (N := 3) (cs := #[.int .i64 a0_0, .int .i64 a0_1]) (t := 28) ?_; intro gb442 hg w5 hbox hb; have n0_ := bA (bS hb); have n1_ := bA (hbox); have n2_ := bA (bZ hg); have n3_ := bA (bZ hg); clear HB; have HB := n0_; have BK442 := n1_; have GW442 := n2_; have GE442 := n3_; clear n0_ n1_ n2_ n3_; clear hb hbox hg) | ((with_reducible refine gate_dst (N := 4) rfl ?_); refine bE (N := 4) (cs := #[.int .i64 a1_0, .int .i64 a1_1]) (t := 28) ?_; intro gb443 hg w6 hbox hb; have n0_ := bA (bB BK442 hb); have n1_ := bA (bS hb); have n2_ := bA (hbox); have n3_ := bA (bZ hg); have n4_ := bA (bZ hg); have n5_ := bA (bL BK442 hg); have n6_ := bA (bG BK442 hg); clear BK442; clear HB; have BK442 := n0_; have HB := n1_; have BK443 := n2_; have GW443 := n3_; have GE443 := n4_; have NB442_443 := n5_; have NB443_442 := n6_; clear n0_ n1_ n2_ n3_ n4_ n5_ n6_; clear hb hbox hg) | ((with_reducible refine gate_dst (N := 5) rfl ?_); refine bE (N := 5) (cs := #[.int .i64 a2_0, .int .i64 a2_1]) (t := 28) ?_; intro gb444 hg w7 hbox hb; have n0_ := bA (bB BK442 hb); have n1_ := bA (bB BK443 hb); have n2_ := bA (bS hb); have n3_ := bA (hbox); have n4_ := bA (bZ hg); have n5_ := bA (bZ hg); have n6_ := bA (bL BK442 hg); have n7_ := bA (bG BK442 hg); have n8_ := bA (bL BK443 hg); have n9_ := bA (bG BK443 hg); clear BK442; clear BK443; clear HB; have BK442 := n0_; have BK443 := n1_; have HB := n2_; have BK444 := n3_; have GW444 := n4_; have GE444 := n5_; have NB442_444 := n6_; have NB444_442 := n7_; have NB443_444 := n8_; have NB444_443 := n9_; clear n0_ n1_ n2_ n3_ n4_ n5_ n6_ n7_ n8_ n9_; clear hb hbox hg))
 repeat (go_quiet (first | ((with_reducible refine gate_dst (N := 3) rfl ?_); refine bE (N := 3) (cs := #[.int .i64 a0_0, .int .i64 a0_1]) (t := 28) ?_; intro gb442 hg w5 hbox hb; have n0_ := bA (bS hb); have n1_ := bA (hbox); have n2_ := bA (bZ hg); have n3_ := bA (bZ hg); clear HB; have HB := n0_; have BK442 := n1_; have GW442 := n2_; have GE442 := n3_; clear n0_ n1_ n2_ n3_; clear hb hbox hg) | ((with_reducible refine gate_dst (N := 4) rfl ?_); refine bE (N := 4) (cs := #[.int .i64 a1_0, .int .i64 a1_1]) (t := 28) ?_; intro gb443 hg w6 hbox hb; have n0_ := bA (bB BK442 hb); have n1_ := bA (bS hb); have n2_ := bA (hbox); have n3_ := bA (bZ hg); have n4_ := bA (bZ hg); have n5_ := bA (bL BK442 hg); have n6_ := bA (bG BK442 hg); clear BK442; clear HB; have BK442 := n0_; have HB := n1_; have BK443 := n2_; have GW443 := n3_; have GE443 := n4_; have NB442_443 := n5_; have NB443_442 := n6_; clear n0_ n1_ n2_ n3_ n4_ n5_ n6_; clear hb hbox hg) | ((with_reducible refine gate_dst (N := 5) rfl ?_); refine bE (N := 5) (cs := #[.int .i64 a2_0, .int .i64 a2_1]) (t := 28) ?_; intro gb444 hg w7 hbox hb; have n0_ := bA (bB BK442 hb); have n1_ := bA (bB BK443 hb); have n2_ := bA (bS hb); have n3_ := bA (hbox); have n4_ := bA (bZ hg); have n5_ := bA (bZ hg); have n6_ := bA (bL BK442 hg); have n7_ := bA (bG BK442 hg); have n8_ := bA (bL BK443 hg); have n9_ := bA (bG BK443 hg); clear BK442; clear BK443; clear HB; have BK442 := n0_; have BK443 := n1_; have HB := n2_; have BK444 := n3_; have GW444 := n4_; have GE444 := n5_; have NB442_444 := n6_; have NB444_442 := n7_; have NB443_444 := n8_; have NB444_443 := n9_; clear n0_ n1_ n2_ n3_ n4_ n5_ n6_ n7_ n8_ n9_; clear hb hbox hg)); go_upto_region 1 with (first | ((with_reducible refine gate_dst (N := 3) rfl ?_); refine bE (N := 3) (cs := #[.int .i64 a0_0, .int .i64 a0_1]) (t := 28) ?_; intro gb442 hg w5 hbox hb; have n0_ := bA (bS hb); have n1_ := bA (hbox); have n2_ := bA (bZ hg); have n3_ := bA (bZ hg); clear HB; have HB := n0_; have BK442 := n1_; have GW442 := n2_; have GE442 := n3_; clear n0_ n1_ n2_ n3_; clear hb hbox hg) | ((with_reducible refine gate_dst (N := 4) rfl ?_); refine bE (N := 4) (cs := #[.int .i64 a1_0, .int .i64 a1_1]) (t := 28) ?_; intro gb443 hg w6 hbox hb; have n0_ := bA (bB BK442 hb); have n1_ := bA (bS hb); have n2_ := bA (hbox); have n3_ := bA (bZ hg); have n4_ := bA (bZ hg); have n5_ := bA (bL BK442 hg); have n6_ := bA (bG BK442 hg); clear BK442; clear HB; have BK442 := n0_; have HB := n1_; have BK443 := n2_; have GW443 := n3_; have GE443 := n4_; have NB442_443 := n5_; have NB443_442 := n6_; clear n0_ n1_ n2_ n3_ n4_ n5_ n6_; clear hb hbox hg) | ((with_reducible refine gate_dst (N := 5) rfl ?_); refine bE (N := 5) (cs := #[.int .i64 a2_0, .int .i64 a2_1]) (t := 28) ?_; intro gb444 hg w7 hbox hb; have n0_ := bA (bB BK442 hb); have n1_ := bA (bB BK443 hb); have n2_ := bA (bS hb); have n3_ := bA (hbox); have n4_ := bA (bZ hg); have n5_ := bA (bZ hg); have n6_ := bA (bL BK442 hg); have n7_ := bA (bG BK442 hg); have n8_ := bA (bL BK443 hg); have n9_ := bA (bG BK443 hg); clear BK442; clear BK443; clear HB; have BK442 := n0_; have BK443 := n1_; have HB := n2_; have BK444 := n3_; have GW444 := n4_; have GE444 := n5_; have NB442_444 := n6_; have NB444_442 := n7_; have NB443_444 := n8_; have NB444_443 := n9_; clear n0_ n1_ n2_ n3_ n4_ n5_ n6_ n7_ n8_ n9_; clear hb hbox hg)))
 (try simp only [Act.put, List.setIfInBounds_toArray, List.set_cons_zero, List.set_cons_succ])
 go_cut [23] (fun v23 wc => ∃ (kq : Nat) (x23_3 : Bool), v23 = .bool x23_3 ∧ Aside0 (apogeeref10_Turn.j0 kq x23_3 a0_0 a0_1 a1_0 a1_1 a2_0 a2_1 = some r) ∧ Aside0 (kq ≤ k) ∧ Aside0 (wc.heap[gb442]? = some (.cells #[.int .i64 a0_0, .int .i64 a0_1] 28 (0, 0))) ∧ Aside0 (wc.heap[gb443]? = some (.cells #[.int .i64 a1_0, .int .i64 a1_1] 28 (0, 0))) ∧ Aside0 (wc.heap[gb444]? = some (.cells #[.int .i64 a2_0, .int .i64 a2_1] 28 (0, 0))) ∧ Aside0 (Below w.heap.size w wc))
 case first =>
  have H := HC4.out
  clear HC4
  replace H := Option.bind_eq_some_iff.mp H
  obtain ⟨t445, A80, H⟩ := H
  have A8 := bA A80
  clear A80
  by_cases c9 : t445 = true
  rotate_left
  ·replace c9 := Bool.eq_false_iff.mpr c9
   subst c9
   rw [if_neg bn] at H
   have H' := bA H
   clear H
   have hnb29 := NB442_443.out
   have hnc29 := NB443_442.out
   have hnb30 := NB442_444.out
   have hnc30 := NB444_442.out
   obtain ⟨hcz31_0, hcz31_1, hfz31_0, hfz31_1⟩ := bc2 BK442
   go_wp2_with (first | (go_at_call 27; (with_reducible refine (apogeeref10_Right.calls a0_0 a0_1 false _ A8.out).mono ?_); rintro e w32 ⟨rfl, hb⟩; replace BK442 := bA (bB BK442 hb); replace BK443 := bA (bB BK443 hb); replace BK444 := bA (bB BK444 hb); replace HB := bA (bS hb); (try clear hb)))
   repeat (go_quiet (first | (go_at_call 27; (with_reducible refine (apogeeref10_Right.calls a0_0 a0_1 false _ A8.out).mono ?_); rintro e w32 ⟨rfl, hb⟩; have n0_ := bA (bB BK442 hb); have n1_ := bA (bB BK443 hb); have n2_ := bA (bB BK444 hb); have n3_ := bA (bS hb); clear BK442; clear BK443; clear BK444; clear HB; have BK442 := n0_; have BK443 := n1_; have BK444 := n2_; have HB := n3_; clear n0_ n1_ n2_ n3_; (try clear hb))); try go_wp2_with (first | (go_at_call 27; (with_reducible refine (apogeeref10_Right.calls a0_0 a0_1 false _ A8.out).mono ?_); rintro e w32 ⟨rfl, hb⟩; replace BK442 := bA (bB BK442 hb); replace BK443 := bA (bB BK443 hb); replace BK444 := bA (bB BK444 hb); replace HB := bA (bS hb); (try clear hb))))
   go_meet
   case rel => exact ⟨_, (true), bs, H', ⟨by first | omega | exact Nat.le_refl _⟩, ⟨by (with_reducible repeat (first | refine blk_drewN ?_ _ | refine blk_drew ?_ | refine blk_alloc ?_ _)); exact BK442.out⟩, ⟨by (with_reducible repeat (first | refine blk_drewN ?_ _ | refine blk_drew ?_ | refine blk_alloc ?_ _)); exact BK443.out⟩, ⟨by (with_reducible repeat (first | refine blk_drewN ?_ _ | refine blk_drew ?_ | refine blk_alloc ?_ _)); exact BK444.out⟩, ⟨bX⟩⟩
  subst c9
  rw [if_pos rfl] at H
  replace H := Option.bind_eq_some_iff.mp H
  obtain ⟨t446, A100, H⟩ := H
  have A10 := bA A100
  clear A100
  by_cases c11 : t446 = true
  ·subst c11
   rw [if_pos rfl] at H
   replace H := Option.bind_eq_some_iff.mp H
   obtain ⟨t447, A120, H⟩ := H
   have A12 := bA A120
   clear A120
   have H' := bA H
   clear H
   have hnb13 := NB442_443.out
   have hnc13 := NB443_442.out
   have hnb14 := NB442_444.out
   have hnc14 := NB444_442.out
   obtain ⟨hcz15_0, hcz15_1, hfz15_0, hfz15_1⟩ := bc2 BK442
   go_wp2_with (first | (go_at_call 27; (with_reducible refine (apogeeref10_Right.calls a0_0 a0_1 true _ A8.out).mono ?_); rintro e w16 ⟨rfl, hb⟩; replace BK442 := bA (bB BK442 hb); replace BK443 := bA (bB BK443 hb); replace BK444 := bA (bB BK444 hb); replace HB := bA (bS hb); (try clear hb); have hnb17 := NB443_444.out; have hnc17 := NB444_443.out; obtain ⟨hcz18_0, hcz18_1, hfz18_0, hfz18_1⟩ := bc2 BK443) | (go_at_call 27; (with_reducible refine (apogeeref10_Right.calls a1_0 a1_1 true _ A10.out).mono ?_); rintro e w19 ⟨rfl, hb⟩; replace BK442 := bA (bB BK442 hb); replace BK443 := bA (bB BK443 hb); replace BK444 := bA (bB BK444 hb); replace HB := bA (bS hb); (try clear hb); obtain ⟨hcz20_0, hcz20_1, hfz20_0, hfz20_1⟩ := bc2 BK444) | (go_at_call 27; (with_reducible refine (apogeeref10_Right.calls a2_0 a2_1 t447 _ A12.out).mono ?_); rintro e w21 ⟨rfl, hb⟩; replace BK442 := bA (bB BK442 hb); replace BK443 := bA (bB BK443 hb); replace BK444 := bA (bB BK444 hb); replace HB := bA (bS hb); (try clear hb)))
   repeat (go_quiet (first | (go_at_call 27; (with_reducible refine (apogeeref10_Right.calls a0_0 a0_1 true _ A8.out).mono ?_); rintro e w16 ⟨rfl, hb⟩; have n0_ := bA (bB BK442 hb); have n1_ := bA (bB BK443 hb); have n2_ := bA (bB BK444 hb); have n3_ := bA (bS hb); clear BK442; clear BK443; clear BK444; clear HB; have BK442 := n0_; have BK443 := n1_; have BK444 := n2_; have HB := n3_; clear n0_ n1_ n2_ n3_; (try clear hb); have hnb17 := NB443_444.out; have hnc17 := NB444_443.out; obtain ⟨hcz18_0, hcz18_1, hfz18_0, hfz18_1⟩ := bc2 BK443) | (go_at_call 27; (with_reducible refine (apogeeref10_Right.calls a1_0 a1_1 true _ A10.out).mono ?_); rintro e w19 ⟨rfl, hb⟩; have n0_ := bA (bB BK442 hb); have n1_ := bA (bB BK443 hb); have n2_ := bA (bB BK444 hb); have n3_ := bA (bS hb); clear BK442; clear BK443; clear BK444; clear HB; have BK442 := n0_; have BK443 := n1_; have BK444 := n2_; have HB := n3_; clear n0_ n1_ n2_ n3_; (try clear hb); obtain ⟨hcz20_0, hcz20_1, hfz20_0, hfz20_1⟩ := bc2 BK444) | (go_at_call 27; (with_reducible refine (apogeeref10_Right.calls a2_0 a2_1 t447 _ A12.out).mono ?_); rintro e w21 ⟨rfl, hb⟩; have n0_ := bA (bB BK442 hb); have n1_ := bA (bB BK443 hb); have n2_ := bA (bB BK444 hb); have n3_ := bA (bS hb); clear BK442; clear BK443; clear BK444; clear HB; have BK442 := n0_; have BK443 := n1_; have BK444 := n2_; have HB := n3_; clear n0_ n1_ n2_ n3_; (try clear hb))); try go_wp2_with (first | (go_at_call 27; (with_reducible refine (apogeeref10_Right.calls a0_0 a0_1 true _ A8.out).mono ?_); rintro e w16 ⟨rfl, hb⟩; replace BK442 := bA (bB BK442 hb); replace BK443 := bA (bB BK443 hb); replace BK444 := bA (bB BK444 hb); replace HB := bA (bS hb); (try clear hb); have hnb17 := NB443_444.out; have hnc17 := NB444_443.out; obtain ⟨hcz18_0, hcz18_1, hfz18_0, hfz18_1⟩ := bc2 BK443) | (go_at_call 27; (with_reducible refine (apogeeref10_Right.calls a1_0 a1_1 true _ A10.out).mono ?_); rintro e w19 ⟨rfl, hb⟩; replace BK442 := bA (bB BK442 hb); replace BK443 := bA (bB BK443 hb); replace BK444 := bA (bB BK444 hb); replace HB := bA (bS hb); (try clear hb); obtain ⟨hcz20_0, hcz20_1, hfz20_0, hfz20_1⟩ := bc2 BK444) | (go_at_call 27; (with_reducible refine (apogeeref10_Right.calls a2_0 a2_1 t447 _ A12.out).mono ?_); rintro e w21 ⟨rfl, hb⟩; replace BK442 := bA (bB BK442 hb); replace BK443 := bA (bB BK443 hb); replace BK444 := bA (bB BK444 hb); replace HB := bA (bS hb); (try clear hb))))
   go_meet
   case rel => exact ⟨_, (!t447), bs, H', ⟨by first | omega | exact Nat.le_refl _⟩, ⟨by (with_reducible repeat (first | refine blk_drewN ?_ _ | refine blk_drew ?_ | refine blk_alloc ?_ _)); exact BK442.out⟩, ⟨by (with_reducible repeat (first | refine blk_drewN ?_ _ | refine blk_drew ?_ | refine blk_alloc ?_ _)); exact BK443.out⟩, ⟨by (with_reducible repeat (first | refine blk_drewN ?_ _ | refine blk_drew ?_ | refine blk_alloc ?_ _)); exact BK444.out⟩, ⟨bX⟩⟩
  replace c11 := Bool.eq_false_iff.mpr c11
  subst c11
  rw [if_neg bn] at H
  have H' := bA H
  clear H
  have hnb22 := NB442_443.out
  have hnc22 := NB443_442.out
  have hnb23 := NB442_444.out
  have hnc23 := NB444_442.out
  obtain ⟨hcz24_0, hcz24_1, hfz24_0, hfz24_1⟩ := bc2 BK442
  go_wp2_with (first | (go_at_call 27; (with_reducible refine (apogeeref10_Right.calls a0_0 a0_1 true _ A8.out).mono ?_); rintro e w25 ⟨rfl, hb⟩; replace BK442 := bA (bB BK442 hb); replace BK443 := bA (bB BK443 hb); replace BK444 := bA (bB BK444 hb); replace HB := bA (bS hb); (try clear hb); have hnb26 := NB443_444.out; have hnc26 := NB444_443.out; obtain ⟨hcz27_0, hcz27_1, hfz27_0, hfz27_1⟩ := bc2 BK443) | (go_at_call 27; (with_reducible refine (apogeeref10_Right.calls a1_0 a1_1 false _ A10.out).mono ?_); rintro e w28 ⟨rfl, hb⟩; replace BK442 := bA (bB BK442 hb); replace BK443 := bA (bB BK443 hb); replace BK444 := bA (bB BK444 hb); replace HB := bA (bS hb); (try clear hb)))
  repeat (go_quiet (first | (go_at_call 27; (with_reducible refine (apogeeref10_Right.calls a0_0 a0_1 true _ A8.out).mono ?_); rintro e w25 ⟨rfl, hb⟩; have n0_ := bA (bB BK442 hb); have n1_ := bA (bB BK443 hb); have n2_ := bA (bB BK444 hb); have n3_ := bA (bS hb); clear BK442; clear BK443; clear BK444; clear HB; have BK442 := n0_; have BK443 := n1_; have BK444 := n2_; have HB := n3_; clear n0_ n1_ n2_ n3_; (try clear hb); have hnb26 := NB443_444.out; have hnc26 := NB444_443.out; obtain ⟨hcz27_0, hcz27_1, hfz27_0, hfz27_1⟩ := bc2 BK443) | (go_at_call 27; (with_reducible refine (apogeeref10_Right.calls a1_0 a1_1 false _ A10.out).mono ?_); rintro e w28 ⟨rfl, hb⟩; have n0_ := bA (bB BK442 hb); have n1_ := bA (bB BK443 hb); have n2_ := bA (bB BK444 hb); have n3_ := bA (bS hb); clear BK442; clear BK443; clear BK444; clear HB; have BK442 := n0_; have BK443 := n1_; have BK444 := n2_; have HB := n3_; clear n0_ n1_ n2_ n3_; (try clear hb))); try go_wp2_with (first | (go_at_call 27; (with_reducible refine (apogeeref10_Right.calls a0_0 a0_1 true _ A8.out).mono ?_); rintro e w25 ⟨rfl, hb⟩; replace BK442 := bA (bB BK442 hb); replace BK443 := bA (bB BK443 hb); replace BK444 := bA (bB BK444 hb); replace HB := bA (bS hb); (try clear hb); have hnb26 := NB443_444.out; have hnc26 := NB444_443.out; obtain ⟨hcz27_0, hcz27_1, hfz27_0, hfz27_1⟩ := bc2 BK443) | (go_at_call 27; (with_reducible refine (apogeeref10_Right.calls a1_0 a1_1 false _ A10.out).mono ?_); rintro e w28 ⟨rfl, hb⟩; replace BK442 := bA (bB BK442 hb); replace BK443 := bA (bB BK443 hb); replace BK444 := bA (bB BK444 hb); replace HB := bA (bS hb); (try clear hb))))
  go_meet
  case rel => exact ⟨_, (true), bs, H', ⟨by first | omega | exact Nat.le_refl _⟩, ⟨by (with_reducible repeat (first | refine blk_drewN ?_ _ | refine blk_drew ?_ | refine blk_alloc ?_ _)); exact BK442.out⟩, ⟨by (with_reducible repeat (first | refine blk_drewN ?_ _ | refine blk_drew ?_ | refine blk_alloc ?_ _)); exact BK443.out⟩, ⟨by (with_reducible repeat (first | refine blk_drewN ?_ _ | refine blk_drew ?_ | refine blk_alloc ?_ _)); exact BK444.out⟩, ⟨bX⟩⟩
 clear HC4
 try clear c1
 try clear c2
 try clear p2
 try clear c3
 try clear c7
 try clear c9
 try clear c11
 try clear c13
 try clear c14
 try clear c17
 try clear c22
 try clear c23
 try clear c26
 try clear c29
 try clear c30
 try clear hcz15_0
 try clear hcz15_1
 try clear hcz18_0
 try clear hcz18_1
 try clear hcz20_0
 try clear hcz20_1
 try clear hcz24_0
 try clear hcz24_1
 try clear hcz27_0
 try clear hcz27_1
 try clear hcz31_0
 try clear hcz31_1
 try clear hfz15_0
 try clear hfz15_1
 try clear hfz18_0
 try clear hfz18_1
 try clear hfz20_0
 try clear hfz20_1
 try clear hfz24_0
 try clear hfz24_1
 try clear hfz27_0
 try clear hfz27_1
 try clear hfz31_0
 try clear hfz31_1
 obtain ⟨kq, x23_3, rfl, HA, HJ3, BK442, BK443, BK444, HB⟩ := hcut
 cases kq with
 | zero => exact absurd HA.out (by simp [apogeeref10_Turn.j0])
 | succ kj3 =>
  have H := HA.out
  clear HA
  simp only [apogeeref10_Turn.j0] at H
  by_cases c33 : x23_3 = true
  ·subst c33
   rw [if_pos rfl] at H
   obtain rfl := Option.some.inj H
   go_wp2
   repeat (go_quiet (fail); try go_wp2)
   go_ret
   exact bF
  replace c33 := Bool.eq_false_iff.mpr c33
  subst c33
  rw [if_neg bn] at H
  have HC34 := bA H
  clear H
  have hnb35 := NB443_442.out
  have hnc35 := NB442_443.out
  have hnb36 := NB443_444.out
  have hnc36 := NB444_443.out
  obtain ⟨hcz37_0, hcz37_1, hfz37_0, hfz37_1⟩ := bc2 BK443
  have hnb38 := NB442_444.out
  have hnc38 := NB444_442.out
  obtain ⟨hcz39_0, hcz39_1, hfz39_0, hfz39_1⟩ := bc2 BK442
  obtain ⟨hcz40_0, hcz40_1, hfz40_0, hfz40_1⟩ := bc2 BK444
  go_upto_region 4 with (fail)
  repeat (go_quiet (fail); go_upto_region 4 with (fail))
  go_cut [57] (fun v57 wc => ∃ (kq : Nat) (x57_33 : Bool), v57 = .bool x57_33 ∧ Aside0 (apogeeref10_Turn.j1 kq (wrap64 (a1_0 - a0_0)) (wrap64 (a2_1 - a0_1)) (wrap64 (a1_1 - a0_1)) (wrap64 (a2_0 - a0_0)) x57_33 = some r) ∧ Aside0 (kq ≤ kj3) ∧ Aside0 (wc.heap[gb442]? = some (.cells #[.int .i64 a0_0, .int .i64 a0_1] 28 (0, 0))) ∧ Aside0 (wc.heap[gb443]? = some (.cells #[.int .i64 a1_0, .int .i64 a1_1] 28 (0, 0))) ∧ Aside0 (wc.heap[gb444]? = some (.cells #[.int .i64 a2_0, .int .i64 a2_1] 28 (0, 0))) ∧ Aside0 (Below w.heap.size w wc))
  case first =>
   have H := HC34.out
   clear HC34
   replace H := Option.bind_eq_some_iff.mp H
   obtain ⟨t448, A410, H⟩ := H
   have A41 := bA A410
   clear A410
   by_cases c42 : t448 = true
   rotate_left
   ·replace c42 := Bool.eq_false_iff.mpr c42
    subst c42
    rw [if_neg bn] at H
    have H' := bA H
    clear H
    go_wp2_with (first | (go_at_call 87; (with_reducible refine (apogeeref10_short.calls (wrap64 (a1_0 - a0_0)) false _ A41.out).mono ?_); rintro e w' ⟨rfl, ⟨nd, rfl⟩⟩; (try first | exact ⟨rfl, _, World.drewN_drewN _ _ _⟩ | exact ⟨rfl, _, Eq.trans (World.drewN_drewN _ _ _) (congrArg (World.drewN _) (Nat.add_assoc _ _ _))⟩)))
    repeat (go_quiet (first | (go_at_call 87; (with_reducible refine (apogeeref10_short.calls (wrap64 (a1_0 - a0_0)) false _ A41.out).mono ?_); rintro e w' ⟨rfl, ⟨nd, rfl⟩⟩; (try first | exact ⟨rfl, _, World.drewN_drewN _ _ _⟩ | exact ⟨rfl, _, Eq.trans (World.drewN_drewN _ _ _) (congrArg (World.drewN _) (Nat.add_assoc _ _ _))⟩))); try go_wp2_with (first | (go_at_call 87; (with_reducible refine (apogeeref10_short.calls (wrap64 (a1_0 - a0_0)) false _ A41.out).mono ?_); rintro e w' ⟨rfl, ⟨nd, rfl⟩⟩; (try first | exact ⟨rfl, _, World.drewN_drewN _ _ _⟩ | exact ⟨rfl, _, Eq.trans (World.drewN_drewN _ _ _) (congrArg (World.drewN _) (Nat.add_assoc _ _ _))⟩))))
    go_meet
    case rel => exact ⟨_, (false), bs, H', ⟨by have := HJ3.out; first | omega | exact Nat.le_refl _⟩, ⟨by (with_reducible repeat (first | refine blk_drewN ?_ _ | refine blk_drew ?_ | refine blk_alloc ?_ _)); exact BK442.out⟩, ⟨by (with_reducible repeat (first | refine blk_drewN ?_ _ | refine blk_drew ?_ | refine blk_alloc ?_ _)); exact BK443.out⟩, ⟨by (with_reducible repeat (first | refine blk_drewN ?_ _ | refine blk_drew ?_ | refine blk_alloc ?_ _)); exact BK444.out⟩, ⟨bX⟩⟩
   subst c42
   rw [if_pos rfl] at H
   replace H := Option.bind_eq_some_iff.mp H
   obtain ⟨t449, A430, H⟩ := H
   have A43 := bA A430
   clear A430
   by_cases c44 : t449 = true
   rotate_left
   ·replace c44 := Bool.eq_false_iff.mpr c44
    subst c44
    rw [if_neg bn] at H
    have H' := bA H
    clear H
    go_wp2_with (first | (go_at_call 87; (with_reducible refine (apogeeref10_short.calls (wrap64 (a1_0 - a0_0)) true _ A41.out).mono ?_); rintro e w' ⟨rfl, ⟨nd, rfl⟩⟩; (try first | exact ⟨rfl, _, World.drewN_drewN _ _ _⟩ | exact ⟨rfl, _, Eq.trans (World.drewN_drewN _ _ _) (congrArg (World.drewN _) (Nat.add_assoc _ _ _))⟩)) | (go_at_call 87; (with_reducible refine (apogeeref10_short.calls (wrap64 (a2_1 - a0_1)) false _ A43.out).mono ?_); rintro e w' ⟨rfl, ⟨nd, rfl⟩⟩; (try first | exact ⟨rfl, _, World.drewN_drewN _ _ _⟩ | exact ⟨rfl, _, Eq.trans (World.drewN_drewN _ _ _) (congrArg (World.drewN _) (Nat.add_assoc _ _ _))⟩)))
    repeat (go_quiet (first | (go_at_call 87; (with_reducible refine (apogeeref10_short.calls (wrap64 (a1_0 - a0_0)) true _ A41.out).mono ?_); rintro e w' ⟨rfl, ⟨nd, rfl⟩⟩; (try first | exact ⟨rfl, _, World.drewN_drewN _ _ _⟩ | exact ⟨rfl, _, Eq.trans (World.drewN_drewN _ _ _) (congrArg (World.drewN _) (Nat.add_assoc _ _ _))⟩)) | (go_at_call 87; (with_reducible refine (apogeeref10_short.calls (wrap64 (a2_1 - a0_1)) false _ A43.out).mono ?_); rintro e w' ⟨rfl, ⟨nd, rfl⟩⟩; (try first | exact ⟨rfl, _, World.drewN_drewN _ _ _⟩ | exact ⟨rfl, _, Eq.trans (World.drewN_drewN _ _ _) (congrArg (World.drewN _) (Nat.add_assoc _ _ _))⟩))); try go_wp2_with (first | (go_at_call 87; (with_reducible refine (apogeeref10_short.calls (wrap64 (a1_0 - a0_0)) true _ A41.out).mono ?_); rintro e w' ⟨rfl, ⟨nd, rfl⟩⟩; (try first | exact ⟨rfl, _, World.drewN_drewN _ _ _⟩ | exact ⟨rfl, _, Eq.trans (World.drewN_drewN _ _ _) (congrArg (World.drewN _) (Nat.add_assoc _ _ _))⟩)) | (go_at_call 87; (with_reducible refine (apogeeref10_short.calls (wrap64 (a2_1 - a0_1)) false _ A43.out).mono ?_); rintro e w' ⟨rfl, ⟨nd, rfl⟩⟩; (try first | exact ⟨rfl, _, World.drewN_drewN _ _ _⟩ | exact ⟨rfl, _, Eq.trans (World.drewN_drewN _ _ _) (congrArg (World.drewN _) (Nat.add_assoc _ _ _))⟩))))
    go_meet
    case rel => exact ⟨_, (false), bs, H', ⟨by have := HJ3.out; first | omega | exact Nat.le_refl _⟩, ⟨by (with_reducible repeat (first | refine blk_drewN ?_ _ | refine blk_drew ?_ | refine blk_alloc ?_ _)); exact BK442.out⟩, ⟨by (with_reducible repeat (first | refine blk_drewN ?_ _ | refine blk_drew ?_ | refine blk_alloc ?_ _)); exact BK443.out⟩, ⟨by (with_reducible repeat (first | refine blk_drewN ?_ _ | refine blk_drew ?_ | refine blk_alloc ?_ _)); exact BK444.out⟩, ⟨bX⟩⟩
   subst c44
   rw [if_pos rfl] at H
   replace H := Option.bind_eq_some_iff.mp H
   obtain ⟨t450, A450, H⟩ := H
   have A45 := bA A450
   clear A450
   by_cases c46 : t450 = true
   ·subst c46
    rw [if_pos rfl] at H
    replace H := Option.bind_eq_some_iff.mp H
    obtain ⟨t451, A470, H⟩ := H
    have A47 := bA A470
    clear A470
    have H' := bA H
    clear H
    go_wp2_with (first | (go_at_call 87; (with_reducible refine (apogeeref10_short.calls (wrap64 (a1_0 - a0_0)) true _ A41.out).mono ?_); rintro e w' ⟨rfl, ⟨nd, rfl⟩⟩; (try first | exact ⟨rfl, _, World.drewN_drewN _ _ _⟩ | exact ⟨rfl, _, Eq.trans (World.drewN_drewN _ _ _) (congrArg (World.drewN _) (Nat.add_assoc _ _ _))⟩)) | (go_at_call 87; (with_reducible refine (apogeeref10_short.calls (wrap64 (a2_1 - a0_1)) true _ A43.out).mono ?_); rintro e w' ⟨rfl, ⟨nd, rfl⟩⟩; (try first | exact ⟨rfl, _, World.drewN_drewN _ _ _⟩ | exact ⟨rfl, _, Eq.trans (World.drewN_drewN _ _ _) (congrArg (World.drewN _) (Nat.add_assoc _ _ _))⟩)) | (go_at_call 87; (with_reducible refine (apogeeref10_short.calls (wrap64 (a1_1 - a0_1)) true _ A45.out).mono ?_); rintro e w' ⟨rfl, ⟨nd, rfl⟩⟩; (try first | exact ⟨rfl, _, World.drewN_drewN _ _ _⟩ | exact ⟨rfl, _, Eq.trans (World.drewN_drewN _ _ _) (congrArg (World.drewN _) (Nat.add_assoc _ _ _))⟩)) | (go_at_call 87; (with_reducible refine (apogeeref10_short.calls (wrap64 (a2_0 - a0_0)) t451 _ A47.out).mono ?_); rintro e w' ⟨rfl, ⟨nd, rfl⟩⟩; (try first | exact ⟨rfl, _, World.drewN_drewN _ _ _⟩ | exact ⟨rfl, _, Eq.trans (World.drewN_drewN _ _ _) (congrArg (World.drewN _) (Nat.add_assoc _ _ _))⟩)))
    repeat (go_quiet (first | (go_at_call 87; (with_reducible refine (apogeeref10_short.calls (wrap64 (a1_0 - a0_0)) true _ A41.out).mono ?_); rintro e w' ⟨rfl, ⟨nd, rfl⟩⟩; (try first | exact ⟨rfl, _, World.drewN_drewN _ _ _⟩ | exact ⟨rfl, _, Eq.trans (World.drewN_drewN _ _ _) (congrArg (World.drewN _) (Nat.add_assoc _ _ _))⟩)) | (go_at_call 87; (with_reducible refine (apogeeref10_short.calls (wrap64 (a2_1 - a0_1)) true _ A43.out).mono ?_); rintro e w' ⟨rfl, ⟨nd, rfl⟩⟩; (try first | exact ⟨rfl, _, World.drewN_drewN _ _ _⟩ | exact ⟨rfl, _, Eq.trans (World.drewN_drewN _ _ _) (congrArg (World.drewN _) (Nat.add_assoc _ _ _))⟩)) | (go_at_call 87; (with_reducible refine (apogeeref10_short.calls (wrap64 (a1_1 - a0_1)) true _ A45.out).mono ?_); rintro e w' ⟨rfl, ⟨nd, rfl⟩⟩; (try first | exact ⟨rfl, _, World.drewN_drewN _ _ _⟩ | exact ⟨rfl, _, Eq.trans (World.drewN_drewN _ _ _) (congrArg (World.drewN _) (Nat.add_assoc _ _ _))⟩)) | (go_at_call 87; (with_reducible refine (apogeeref10_short.calls (wrap64 (a2_0 - a0_0)) t451 _ A47.out).mono ?_); rintro e w' ⟨rfl, ⟨nd, rfl⟩⟩; (try first | exact ⟨rfl, _, World.drewN_drewN _ _ _⟩ | exact ⟨rfl, _, Eq.trans (World.drewN_drewN _ _ _) (congrArg (World.drewN _) (Nat.add_assoc _ _ _))⟩))); try go_wp2_with (first | (go_at_call 87; (with_reducible refine (apogeeref10_short.calls (wrap64 (a1_0 - a0_0)) true _ A41.out).mono ?_); rintro e w' ⟨rfl, ⟨nd, rfl⟩⟩; (try first | exact ⟨rfl, _, World.drewN_drewN _ _ _⟩ | exact ⟨rfl, _, Eq.trans (World.drewN_drewN _ _ _) (congrArg (World.drewN _) (Nat.add_assoc _ _ _))⟩)) | (go_at_call 87; (with_reducible refine (apogeeref10_short.calls (wrap64 (a2_1 - a0_1)) true _ A43.out).mono ?_); rintro e w' ⟨rfl, ⟨nd, rfl⟩⟩; (try first | exact ⟨rfl, _, World.drewN_drewN _ _ _⟩ | exact ⟨rfl, _, Eq.trans (World.drewN_drewN _ _ _) (congrArg (World.drewN _) (Nat.add_assoc _ _ _))⟩)) | (go_at_call 87; (with_reducible refine (apogeeref10_short.calls (wrap64 (a1_1 - a0_1)) true _ A45.out).mono ?_); rintro e w' ⟨rfl, ⟨nd, rfl⟩⟩; (try first | exact ⟨rfl, _, World.drewN_drewN _ _ _⟩ | exact ⟨rfl, _, Eq.trans (World.drewN_drewN _ _ _) (congrArg (World.drewN _) (Nat.add_assoc _ _ _))⟩)) | (go_at_call 87; (with_reducible refine (apogeeref10_short.calls (wrap64 (a2_0 - a0_0)) t451 _ A47.out).mono ?_); rintro e w' ⟨rfl, ⟨nd, rfl⟩⟩; (try first | exact ⟨rfl, _, World.drewN_drewN _ _ _⟩ | exact ⟨rfl, _, Eq.trans (World.drewN_drewN _ _ _) (congrArg (World.drewN _) (Nat.add_assoc _ _ _))⟩))))
    go_meet
    case rel => exact ⟨_, (t451), bs, H', ⟨by have := HJ3.out; first | omega | exact Nat.le_refl _⟩, ⟨by (with_reducible repeat (first | refine blk_drewN ?_ _ | refine blk_drew ?_ | refine blk_alloc ?_ _)); exact BK442.out⟩, ⟨by (with_reducible repeat (first | refine blk_drewN ?_ _ | refine blk_drew ?_ | refine blk_alloc ?_ _)); exact BK443.out⟩, ⟨by (with_reducible repeat (first | refine blk_drewN ?_ _ | refine blk_drew ?_ | refine blk_alloc ?_ _)); exact BK444.out⟩, ⟨bX⟩⟩
   replace c46 := Bool.eq_false_iff.mpr c46
   subst c46
   rw [if_neg bn] at H
   have H' := bA H
   clear H
   go_wp2_with (first | (go_at_call 87; (with_reducible refine (apogeeref10_short.calls (wrap64 (a1_0 - a0_0)) true _ A41.out).mono ?_); rintro e w' ⟨rfl, ⟨nd, rfl⟩⟩; (try first | exact ⟨rfl, _, World.drewN_drewN _ _ _⟩ | exact ⟨rfl, _, Eq.trans (World.drewN_drewN _ _ _) (congrArg (World.drewN _) (Nat.add_assoc _ _ _))⟩)) | (go_at_call 87; (with_reducible refine (apogeeref10_short.calls (wrap64 (a2_1 - a0_1)) true _ A43.out).mono ?_); rintro e w' ⟨rfl, ⟨nd, rfl⟩⟩; (try first | exact ⟨rfl, _, World.drewN_drewN _ _ _⟩ | exact ⟨rfl, _, Eq.trans (World.drewN_drewN _ _ _) (congrArg (World.drewN _) (Nat.add_assoc _ _ _))⟩)) | (go_at_call 87; (with_reducible refine (apogeeref10_short.calls (wrap64 (a1_1 - a0_1)) false _ A45.out).mono ?_); rintro e w' ⟨rfl, ⟨nd, rfl⟩⟩; (try first | exact ⟨rfl, _, World.drewN_drewN _ _ _⟩ | exact ⟨rfl, _, Eq.trans (World.drewN_drewN _ _ _) (congrArg (World.drewN _) (Nat.add_assoc _ _ _))⟩)))
   repeat (go_quiet (first | (go_at_call 87; (with_reducible refine (apogeeref10_short.calls (wrap64 (a1_0 - a0_0)) true _ A41.out).mono ?_); rintro e w' ⟨rfl, ⟨nd, rfl⟩⟩; (try first | exact ⟨rfl, _, World.drewN_drewN _ _ _⟩ | exact ⟨rfl, _, Eq.trans (World.drewN_drewN _ _ _) (congrArg (World.drewN _) (Nat.add_assoc _ _ _))⟩)) | (go_at_call 87; (with_reducible refine (apogeeref10_short.calls (wrap64 (a2_1 - a0_1)) true _ A43.out).mono ?_); rintro e w' ⟨rfl, ⟨nd, rfl⟩⟩; (try first | exact ⟨rfl, _, World.drewN_drewN _ _ _⟩ | exact ⟨rfl, _, Eq.trans (World.drewN_drewN _ _ _) (congrArg (World.drewN _) (Nat.add_assoc _ _ _))⟩)) | (go_at_call 87; (with_reducible refine (apogeeref10_short.calls (wrap64 (a1_1 - a0_1)) false _ A45.out).mono ?_); rintro e w' ⟨rfl, ⟨nd, rfl⟩⟩; (try first | exact ⟨rfl, _, World.drewN_drewN _ _ _⟩ | exact ⟨rfl, _, Eq.trans (World.drewN_drewN _ _ _) (congrArg (World.drewN _) (Nat.add_assoc _ _ _))⟩))); try go_wp2_with (first | (go_at_call 87; (with_reducible refine (apogeeref10_short.calls (wrap64 (a1_0 - a0_0)) true _ A41.out).mono ?_); rintro e w' ⟨rfl, ⟨nd, rfl⟩⟩; (try first | exact ⟨rfl, _, World.drewN_drewN _ _ _⟩ | exact ⟨rfl, _, Eq.trans (World.drewN_drewN _ _ _) (congrArg (World.drewN _) (Nat.add_assoc _ _ _))⟩)) | (go_at_call 87; (with_reducible refine (apogeeref10_short.calls (wrap64 (a2_1 - a0_1)) true _ A43.out).mono ?_); rintro e w' ⟨rfl, ⟨nd, rfl⟩⟩; (try first | exact ⟨rfl, _, World.drewN_drewN _ _ _⟩ | exact ⟨rfl, _, Eq.trans (World.drewN_drewN _ _ _) (congrArg (World.drewN _) (Nat.add_assoc _ _ _))⟩)) | (go_at_call 87; (with_reducible refine (apogeeref10_short.calls (wrap64 (a1_1 - a0_1)) false _ A45.out).mono ?_); rintro e w' ⟨rfl, ⟨nd, rfl⟩⟩; (try first | exact ⟨rfl, _, World.drewN_drewN _ _ _⟩ | exact ⟨rfl, _, Eq.trans (World.drewN_drewN _ _ _) (congrArg (World.drewN _) (Nat.add_assoc _ _ _))⟩))))
   go_meet
   case rel => exact ⟨_, (false), bs, H', ⟨by have := HJ3.out; first | omega | exact Nat.le_refl _⟩, ⟨by (with_reducible repeat (first | refine blk_drewN ?_ _ | refine blk_drew ?_ | refine blk_alloc ?_ _)); exact BK442.out⟩, ⟨by (with_reducible repeat (first | refine blk_drewN ?_ _ | refine blk_drew ?_ | refine blk_alloc ?_ _)); exact BK443.out⟩, ⟨by (with_reducible repeat (first | refine blk_drewN ?_ _ | refine blk_drew ?_ | refine blk_alloc ?_ _)); exact BK444.out⟩, ⟨bX⟩⟩
  clear HC34
  try clear c1
  try clear c2
  try clear p2
  try clear c3
  try clear c4
  try clear p6
  try clear c7
  try clear c9
  try clear c11
  try clear c13
  try clear c14
  try clear c17
  try clear c22
  try clear c23
  try clear c26
  try clear c29
  try clear c30
  try clear c33
  try clear c35
  try clear c36
  try clear c38
  try clear c42
  try clear c44
  try clear c46
  try clear hcz15_0
  try clear hcz15_1
  try clear hcz18_0
  try clear hcz18_1
  try clear hcz20_0
  try clear hcz20_1
  try clear hcz24_0
  try clear hcz24_1
  try clear hcz27_0
  try clear hcz27_1
  try clear hcz31_0
  try clear hcz31_1
  try clear hcz37_0
  try clear hcz37_1
  try clear hcz39_0
  try clear hcz39_1
  try clear hcz40_0
  try clear hcz40_1
  try clear hfz15_0
  try clear hfz15_1
  try clear hfz18_0
  try clear hfz18_1
  try clear hfz20_0
  try clear hfz20_1
  try clear hfz24_0
  try clear hfz24_1
  try clear hfz27_0
  try clear hfz27_1
  try clear hfz31_0
  try clear hfz31_1
  try clear hfz37_0
  try clear hfz37_1
  try clear hfz39_0
  try clear hfz39_1
  try clear hfz40_0
  try clear hfz40_1
  try clear p2
  obtain ⟨kq, x57_33, rfl, HA, HJ33, BK442, BK443, BK444, HB⟩ := hcut
  cases kq with
  | zero => exact absurd HA.out (by simp [apogeeref10_Turn.j1])
  | succ kj33 =>
   have H := HA.out
   clear HA
   simp only [apogeeref10_Turn.j1] at H
   by_cases c48 : x57_33 = true
   rotate_left
   ·replace c48 := Bool.eq_false_iff.mpr c48
    subst c48
    rw [if_neg bn] at H
    replace H := Option.bind_eq_some_iff.mp H
    obtain ⟨⟨t452, t453⟩, A510, H⟩ := H
    replace H : ((apogeeref01_Mul.f kj33 (wrap64 (a1_1 - a0_1)) (wrap64 (a2_0 - a0_0))).bind fun bt454 => ((apogeeref01_Cmp.f kj33 t452 t453 bt454.1 bt454.2).bind fun t456 => (some t456))) = some r := H
    have A51 := bA A510
    clear A510
    replace H := Option.bind_eq_some_iff.mp H
    obtain ⟨⟨t454, t455⟩, A520, H⟩ := H
    replace H : ((apogeeref01_Cmp.f kj33 t452 t453 t454 t455).bind fun t456 => (some t456)) = some r := H
    have A52 := bA A520
    clear A520
    replace H := Option.bind_eq_some_iff.mp H
    obtain ⟨t456, A530, H⟩ := H
    have A53 := bA A530
    clear A530
    obtain rfl := Option.some.inj H
    go_wp2_with (first | (go_at_call 89; (with_reducible refine (apogeeref01_Mul.calls kj33 (wrap64 (a1_0 - a0_0)) (wrap64 (a2_1 - a0_1)) t452 t453 _ A51.out).mono ?_); rintro e w54 ⟨rfl, hb⟩; replace BK442 := bA (bB BK442 hb); replace BK443 := bA (bB BK443 hb); replace BK444 := bA (bB BK444 hb); replace HB := bA (bS hb); (try clear hb)) | (go_at_call 89; (with_reducible refine (apogeeref01_Mul.calls kj33 (wrap64 (a1_1 - a0_1)) (wrap64 (a2_0 - a0_0)) t454 t455 _ A52.out).mono ?_); rintro e w55 ⟨rfl, hb⟩; replace BK442 := bA (bB BK442 hb); replace BK443 := bA (bB BK443 hb); replace BK444 := bA (bB BK444 hb); replace HB := bA (bS hb); (try clear hb)) | (go_at_call 88; (with_reducible refine (apogeeref01_Cmp.calls kj33 t452 t453 t454 t455 t456 _ A53.out).mono ?_); rintro e w56 ⟨rfl, hb⟩; replace BK442 := bA (bB BK442 hb); replace BK443 := bA (bB BK443 hb); replace BK444 := bA (bB BK444 hb); replace HB := bA (bS hb); (try clear hb)))
    repeat (go_quiet (first | (go_at_call 89; (with_reducible refine (apogeeref01_Mul.calls kj33 (wrap64 (a1_0 - a0_0)) (wrap64 (a2_1 - a0_1)) t452 t453 _ A51.out).mono ?_); rintro e w54 ⟨rfl, hb⟩; have n0_ := bA (bB BK442 hb); have n1_ := bA (bB BK443 hb); have n2_ := bA (bB BK444 hb); have n3_ := bA (bS hb); clear BK442; clear BK443; clear BK444; clear HB; have BK442 := n0_; have BK443 := n1_; have BK444 := n2_; have HB := n3_; clear n0_ n1_ n2_ n3_; (try clear hb)) | (go_at_call 89; (with_reducible refine (apogeeref01_Mul.calls kj33 (wrap64 (a1_1 - a0_1)) (wrap64 (a2_0 - a0_0)) t454 t455 _ A52.out).mono ?_); rintro e w55 ⟨rfl, hb⟩; have n0_ := bA (bB BK442 hb); have n1_ := bA (bB BK443 hb); have n2_ := bA (bB BK444 hb); have n3_ := bA (bS hb); clear BK442; clear BK443; clear BK444; clear HB; have BK442 := n0_; have BK443 := n1_; have BK444 := n2_; have HB := n3_; clear n0_ n1_ n2_ n3_; (try clear hb)) | (go_at_call 88; (with_reducible refine (apogeeref01_Cmp.calls kj33 t452 t453 t454 t455 t456 _ A53.out).mono ?_); rintro e w56 ⟨rfl, hb⟩; have n0_ := bA (bB BK442 hb); have n1_ := bA (bB BK443 hb); have n2_ := bA (bB BK444 hb); have n3_ := bA (bS hb); clear BK442; clear BK443; clear BK444; clear HB; have BK442 := n0_; have BK443 := n1_; have BK444 := n2_; have HB := n3_; clear n0_ n1_ n2_ n3_; (try clear hb))); try go_wp2_with (first | (go_at_call 89; (with_reducible refine (apogeeref01_Mul.calls kj33 (wrap64 (a1_0 - a0_0)) (wrap64 (a2_1 - a0_1)) t452 t453 _ A51.out).mono ?_); rintro e w54 ⟨rfl, hb⟩; replace BK442 := bA (bB BK442 hb); replace BK443 := bA (bB BK443 hb); replace BK444 := bA (bB BK444 hb); replace HB := bA (bS hb); (try clear hb)) | (go_at_call 89; (with_reducible refine (apogeeref01_Mul.calls kj33 (wrap64 (a1_1 - a0_1)) (wrap64 (a2_0 - a0_0)) t454 t455 _ A52.out).mono ?_); rintro e w55 ⟨rfl, hb⟩; replace BK442 := bA (bB BK442 hb); replace BK443 := bA (bB BK443 hb); replace BK444 := bA (bB BK444 hb); replace HB := bA (bS hb); (try clear hb)) | (go_at_call 88; (with_reducible refine (apogeeref01_Cmp.calls kj33 t452 t453 t454 t455 t456 _ A53.out).mono ?_); rintro e w56 ⟨rfl, hb⟩; replace BK442 := bA (bB BK442 hb); replace BK443 := bA (bB BK443 hb); replace BK444 := bA (bB BK444 hb); replace HB := bA (bS hb); (try clear hb))))
    go_ret
    exact bF
   subst c48
   rw [if_pos rfl] at H
   by_cases c49 : (wrap64 ((wrap64 (a1_0 - a0_0)) * (wrap64 (a2_1 - a0_1)))) < (wrap64 ((wrap64 (a1_1 - a0_1)) * (wrap64 (a2_0 - a0_0))))
   ·rw [if_pos c49] at H
    have c49b0 : decide ((wrap64 ((wrap64 (a1_0 - a0_0)) * (wrap64 (a2_1 - a0_1)))) < (wrap64 ((wrap64 (a1_1 - a0_1)) * (wrap64 (a2_0 - a0_0))))) = true := decide_eq_true c49
    clear c49
    obtain rfl := Option.some.inj H
    go_wp2
    repeat (go_quiet (fail); try go_wp2)
    go_ret
    exact bF
   rw [if_neg c49] at H
   have c49b0 : decide ((wrap64 ((wrap64 (a1_0 - a0_0)) * (wrap64 (a2_1 - a0_1)))) < (wrap64 ((wrap64 (a1_1 - a0_1)) * (wrap64 (a2_0 - a0_0))))) = false := decide_eq_false c49
   clear c49
   by_cases c50 : (wrap64 ((wrap64 (a1_0 - a0_0)) * (wrap64 (a2_1 - a0_1)))) > (wrap64 ((wrap64 (a1_1 - a0_1)) * (wrap64 (a2_0 - a0_0))))
   ·rw [if_pos c50] at H
    have c50b0 : decide ((wrap64 ((wrap64 (a1_1 - a0_1)) * (wrap64 (a2_0 - a0_0)))) < (wrap64 ((wrap64 (a1_0 - a0_0)) * (wrap64 (a2_1 - a0_1))))) = true := decide_eq_true c50
    clear c50
    obtain rfl := Option.some.inj H
    go_wp2
    repeat (go_quiet (fail); try go_wp2)
    go_ret
    exact bF
   rw [if_neg c50] at H
   have c50b0 : decide ((wrap64 ((wrap64 (a1_1 - a0_1)) * (wrap64 (a2_0 - a0_0)))) < (wrap64 ((wrap64 (a1_0 - a0_0)) * (wrap64 (a2_1 - a0_1))))) = false := decide_eq_false c50
   clear c50
   obtain rfl := Option.some.inj H
   go_wp2
   repeat (go_quiet (fail); try go_wp2)
   go_ret
   exact bF
/-! ### apogeeref10_On: function 63 -/
def apogeeref10_On.f (k : Nat) (a0_0 : Int) (a0_1 : Int) (a1_0 : Int) (a1_1 : Int) (a2_0 : Int) (a2_1 : Int) : Option (Bool) := (apogeeref10_Right.f a1_0 a1_1).bind fun t460 => (if t460 = true then ((apogeeref10_Right.f a2_0 a2_1).bind fun t461 => (if t461 = true then ((apogeeref10_Right.f a0_0 a0_1).bind fun t462 => (if t462 = true then ((apogeeref10_Turn.f k a1_0 a1_1 a2_0 a2_1 a0_0 a0_1).bind fun t463 => (if t463 = 0 then (if a0_0 ≥ (mn a1_0 a2_0) then (if a0_0 ≤ (mx a1_0 a2_0) then (if a0_1 ≥ (mn a1_1 a2_1) then (some (decide (a0_1 ≤ (mx a1_1 a2_1)))) else (some false)) else (some false)) else (some false)) else (some false))) else (some false))) else (some false))) else (some false))
theorem apogeeref10_On.mono : ∀ a0 a1 a2 a3 a4 a5 k, LeO (apogeeref10_On.f k a0 a1 a2 a3 a4 a5) (apogeeref10_On.f (k + 1) a0 a1 a2 a3 a4 a5) := by
 intro a0 a1 a2 a3 a4 a5 k
 unfold apogeeref10_On.f
 have m0_ := @apogeeref10_Turn.mono
 exact bMo
set_option maxHeartbeats 8000000 in
set_option maxRecDepth 100000 in
theorem apogeeref10_On.calls (k : Nat) (a0_0 : Int) (a0_1 : Int) (a1_0 : Int) (a1_1 : Int) (a2_0 : Int) (a2_1 : Int) (r : Bool) (w : World) (h : apogeeref10_On.f k a0_0 a0_1 a1_0 a1_1 a2_0 a2_1 = some r) :
  Calls Try.prog 63 #[.agg #[.int .i64 a0_0, .int .i64 a0_1], .agg #[.int .i64 a1_0, .int .i64 a1_1], .agg #[.int .i64 a2_0, .int .i64 a2_1]] w fun e w' => e = .returned (.bool r) ∧ Below w.heap.size w w' := by
 have hu28 := Try.underlying28
 have HB := bA (Below.refl w.heap.size w)
 have H : ((apogeeref10_Right.f a1_0 a1_1).bind fun t460 => (if t460 = true then ((apogeeref10_Right.f a2_0 a2_1).bind fun t461 => (if t461 = true then ((apogeeref10_Right.f a0_0 a0_1).bind fun t462 => (if t462 = true then ((apogeeref10_Turn.f k a1_0 a1_1 a2_0 a2_1 a0_0 a0_1).bind fun t463 => (if t463 = 0 then (if a0_0 ≥ (mn a1_0 a2_0) then (if a0_0 ≤ (mx a1_0 a2_0) then (if a0_1 ≥ (mn a1_1 a2_1) then (some (decide (a0_1 ≤ (mx a1_1 a2_1)))) else (some false)) else (some false)) else (some false)) else (some false))) else (some false))) else (some false))) else (some false))) = some r := h
 clear h
 replace H := Option.bind_eq_some_iff.mp H
 obtain ⟨t460, A40, H⟩ := H
 have A4 := bA A40
 clear A40
 by_cases c5 : t460 = true
 subst c5
 rw [if_pos rfl] at H
 replace H := Option.bind_eq_some_iff.mp H
 obtain ⟨t461, A60, H⟩ := H
 have A6 := bA A60
 clear A60
 by_cases c7 : t461 = true
 subst c7
 rw [if_pos rfl] at H
 replace H := Option.bind_eq_some_iff.mp H
 obtain ⟨t462, A80, H⟩ := H
 have A8 := bA A80
 clear A80
 by_cases c9 : t462 = true
 subst c9
 rw [if_pos rfl] at H
 replace H := Option.bind_eq_some_iff.mp H
 obtain ⟨t463, A100, H⟩ := H
 have A10 := bA A100
 clear A100
 by_cases c11 : t463 = 0
 rw [if_pos c11] at H
 have c11b0 : (t463 == 0) = true := beq_iff_eq.mpr c11
 have c11b1 : (t463 != 0) = false := bne_eq_false_iff_eq.mpr c11
 clear c11
 obtain ⟨ji12, hji12⟩ : ∃ j_ : Int, (mn a1_0 a2_0) = j_ := ⟨_, rfl⟩
 replace H : (if a0_0 ≥ (ji12) then (if a0_0 ≤ (mx a1_0 a2_0) then (if a0_1 ≥ (mn a1_1 a2_1) then (some (decide (a0_1 ≤ (mx a1_1 a2_1)))) else (some false)) else (some false)) else (some false)) = some r := by first | (rw [hji12] at H; exact H) | (simp only [hji12] at H ⊢; exact H)
 (try rw [hji12] at A4)
 (try rw [hji12] at A6)
 (try rw [hji12] at A8)
 (try rw [hji12] at A10)
 have hji12_ : (if a2_0 < a1_0 then a2_0 else a1_0) = ji12 := hji12
 by_cases c13 : a0_0 ≥ (ji12)
 rw [if_pos c13] at H
 have c13b0 : decide ((ji12) ≤ a0_0) = true := decide_eq_true c13
 clear c13
 obtain ⟨ji14, hji14⟩ : ∃ j_ : Int, (mx a1_0 a2_0) = j_ := ⟨_, rfl⟩
 replace H : (if a0_0 ≤ (ji14) then (if a0_1 ≥ (mn a1_1 a2_1) then (some (decide (a0_1 ≤ (mx a1_1 a2_1)))) else (some false)) else (some false)) = some r := by first | (rw [hji14] at H; exact H) | (simp only [hji14] at H ⊢; exact H)
 (try rw [hji14] at A4)
 (try rw [hji14] at A6)
 (try rw [hji14] at A8)
 (try rw [hji14] at A10)
 have hji14_ : (if a1_0 < a2_0 then a2_0 else a1_0) = ji14 := hji14
 by_cases c15 : a0_0 ≤ (ji14)
 rw [if_pos c15] at H
 have c15b0 : decide (a0_0 ≤ (ji14)) = true := decide_eq_true c15
 clear c15
 obtain ⟨ji16, hji16⟩ : ∃ j_ : Int, (mn a1_1 a2_1) = j_ := ⟨_, rfl⟩
 replace H : (if a0_1 ≥ (ji16) then (some (decide (a0_1 ≤ (mx a1_1 a2_1)))) else (some false)) = some r := by first | (rw [hji16] at H; exact H) | (simp only [hji16] at H ⊢; exact H)
 (try rw [hji16] at A4)
 (try rw [hji16] at A6)
 (try rw [hji16] at A8)
 (try rw [hji16] at A10)
 have hji16_ : (if a2_1 < a1_1 then a2_1 else a1_1) = ji16 := hji16
 by_cases c17 : a0_1 ≥ (ji16)
 rw [if_pos c17] at H
 have c17b0 : decide ((ji16) ≤ a0_1) = true := decide_eq_true c17
 clear c17
 obtain ⟨ji18, hji18⟩ : ∃ j_ : Int, (mx a1_1 a2_1) = j_ := ⟨_, rfl⟩
 replace H : (some (decide (a0_1 ≤ (ji18)))) = some r := by first | (rw [hji18] at H; exact H) | (simp only [hji18] at H ⊢; exact H)
 (try rw [hji18] at A4)
 (try rw [hji18] at A6)
 (try rw [hji18] at A8)
 (try rw [hji18] at A10)
 have hji18_ : (if a1_1 < a2_1 then a2_1 else a1_1) = ji18 := hji18
 obtain rfl := Option.some.inj H
 rotate_left
 rw [if_neg c17] at H
 have c17b0 : decide ((ji16) ≤ a0_1) = false := decide_eq_false c17
 clear c17
 obtain rfl := Option.some.inj H
 rotate_left
 rw [if_neg c15] at H
 have c15b0 : decide (a0_0 ≤ (ji14)) = false := decide_eq_false c15
 clear c15
 obtain rfl := Option.some.inj H
 rotate_left
 rw [if_neg c13] at H
 have c13b0 : decide ((ji12) ≤ a0_0) = false := decide_eq_false c13
 clear c13
 obtain rfl := Option.some.inj H
 rotate_left
 rw [if_neg c11] at H
 have c11b0 : (t463 == 0) = false := beq_eq_false_iff_ne.mpr c11
 have c11b1 : (t463 != 0) = true := bne_iff_ne.mpr c11
 obtain rfl := Option.some.inj H
 rotate_left
 replace c9 := Bool.eq_false_iff.mpr c9
 subst c9
 rw [if_neg bn] at H
 obtain rfl := Option.some.inj H
 rotate_left
 replace c7 := Bool.eq_false_iff.mpr c7
 subst c7
 rw [if_neg bn] at H
 obtain rfl := Option.some.inj H
 rotate_left
 replace c5 := Bool.eq_false_iff.mpr c5
 subst c5
 rw [if_neg bn] at H
 obtain rfl := Option.some.inj H
 rotate_left
 all_goals go_enter Try.func63, Try.ntmps63
 all_goals go_wp2_with (first | ((with_reducible refine gate_dst (N := 3) rfl ?_); (try (refine gate_guard (by rfl) ?_; dsimp only)); refine bE (N := 3) (cs := #[.int .i64 a0_0, .int .i64 a0_1]) (t := 28) ?_; intro gb457 hg wz0 hbox hb; have BK457 := bA (hbox); have GW457 := bA (bZ hg); have GE457 := bA (bZ hg); replace HB := bA (bS hb); clear hb hbox hg) | ((with_reducible refine gate_dst (N := 4) rfl ?_); (try (refine gate_guard (by rfl) ?_; dsimp only)); refine bE (N := 4) (cs := #[.int .i64 a1_0, .int .i64 a1_1]) (t := 28) ?_; intro gb458 hg wz1 hbox hb; have BK458 := bA (hbox); have GW458 := bA (bZ hg); have GE458 := bA (bZ hg); have NB457_458 := bA (bL BK457 hg); have NB458_457 := bA (bG BK457 hg); replace BK457 := bA (bB BK457 hb); replace HB := bA (bS hb); clear hb hbox hg) | ((with_reducible refine gate_dst (N := 5) rfl ?_); (try (refine gate_guard (by rfl) ?_; dsimp only)); refine bE (N := 5) (cs := #[.int .i64 a2_0, .int .i64 a2_1]) (t := 28) ?_; intro gb459 hg wz2 hbox hb; have BK459 := bA (hbox); have GW459 := bA (bZ hg); have GE459 := bA (bZ hg); have NB457_459 := bA (bL BK457 hg); have NB459_457 := bA (bG BK457 hg); have NB458_459 := bA (bL BK458 hg); have NB459_458 := bA (bG BK458 hg); replace BK457 := bA (bB BK457 hb); replace BK458 := bA (bB BK458 hb); replace HB := bA (bS hb); clear hb hbox hg; have hz1 := NB458_457.out; have hz2 := NB457_458.out; have hz3 := NB458_459.out; have hz4 := NB459_458.out; obtain ⟨hz5, hz6, hz7, hz8⟩ := bc2 BK458) | ((first | ((with_reducible refine gate_callee (f := 27) rfl ?_); refine bC (some 8) Try.func27 #[.agg #[.int .i64 a1_0, .int .i64 a1_1]] ?_) | go_at_call 27); (with_reducible refine (apogeeref10_Right.calls a1_0 a1_1 true _ A4.out).mono ?_); rintro e wz3 ⟨rfl, hb⟩; (first | refine ⟨_, rfl, ?_⟩ | skip); replace BK457 := bA (bB BK457 hb); replace BK458 := bA (bB BK458 hb); replace BK459 := bA (bB BK459 hb); replace HB := bA (bS hb); (try clear hb); have hz9 := NB459_457.out; have hz10 := NB457_459.out; obtain ⟨hz11, hz12, hz13, hz14⟩ := bc2 BK459) | (go_at_call 27; (with_reducible refine (apogeeref10_Right.calls a2_0 a2_1 true _ A6.out).mono ?_); rintro e wz4 ⟨rfl, hb⟩; replace BK457 := bA (bB BK457 hb); replace BK458 := bA (bB BK458 hb); replace BK459 := bA (bB BK459 hb); replace HB := bA (bS hb); (try clear hb); obtain ⟨hz15, hz16, hz17, hz18⟩ := bc2 BK457) | (go_at_call 27; (with_reducible refine (apogeeref10_Right.calls a0_0 a0_1 true _ A8.out).mono ?_); rintro e wz5 ⟨rfl, hb⟩; replace BK457 := bA (bB BK457 hb); replace BK458 := bA (bB BK458 hb); replace BK459 := bA (bB BK459 hb); replace HB := bA (bS hb); (try clear hb); obtain ⟨hz19, hz20, hz7, hz8⟩ := bc2 BK458; obtain ⟨hz21, hz22, hz13, hz14⟩ := bc2 BK459; obtain ⟨hz23, hz24, hz17, hz18⟩ := bc2 BK457) | (go_at_call 78; (with_reducible refine (apogeeref10_Turn.calls k a1_0 a1_1 a2_0 a2_1 a0_0 a0_1 t463 _ A10.out).mono ?_); rintro e wz6 ⟨rfl, hb⟩; replace BK457 := bA (bB BK457 hb); replace BK458 := bA (bB BK458 hb); replace BK459 := bA (bB BK459 hb); replace HB := bA (bS hb); (try clear hb); obtain ⟨hz25, hz26, hz17, hz18⟩ := bc2 BK457; obtain ⟨hz27, hz28, hz7, hz8⟩ := bc2 BK458; obtain ⟨hz29, hz30, hz13, hz14⟩ := bc2 BK459) | (go_at_call 27; (with_reducible refine (apogeeref10_Right.calls a0_0 a0_1 false _ A8.out).mono ?_); rintro e wz5 ⟨rfl, hb⟩; replace BK457 := bA (bB BK457 hb); replace BK458 := bA (bB BK458 hb); replace BK459 := bA (bB BK459 hb); replace HB := bA (bS hb); (try clear hb)) | (go_at_call 27; (with_reducible refine (apogeeref10_Right.calls a2_0 a2_1 false _ A6.out).mono ?_); rintro e wz4 ⟨rfl, hb⟩; replace BK457 := bA (bB BK457 hb); replace BK458 := bA (bB BK458 hb); replace BK459 := bA (bB BK459 hb); replace HB := bA (bS hb); (try clear hb)) | ((first | ((with_reducible refine gate_callee (f := 27) rfl ?_); refine bC (some 8) Try.func27 #[.agg #[.int .i64 a1_0, .int .i64 a1_1]] ?_) | go_at_call 27); (with_reducible refine (apogeeref10_Right.calls a1_0 a1_1 false _ A4.out).mono ?_); rintro e wz3 ⟨rfl, hb⟩; (first | refine ⟨_, rfl, ?_⟩ | skip); replace BK457 := bA (bB BK457 hb); replace BK458 := bA (bB BK458 hb); replace BK459 := bA (bB BK459 hb); replace HB := bA (bS hb); (try clear hb)))
 ·go_ret
  exact ⟨by first | rfl | (simp [errW_none, errW_some] <;> rfl) | (simp only [← hji12, ← hji14, ← hji16, ← hji18]; first | rfl | (simp [errW_none, errW_some] <;> rfl)) | (simp [*, errW_none, errW_some] <;> rfl), by repeat (first | (with_reducible first | exact HB.out | apply below_alloc | apply pw_below_drewN | apply below_drew1 | refine below_set ?_ GE457.out | refine below_set ?_ GE458.out | refine below_set ?_ GE459.out) | exact HB.out)⟩
 ·go_ret
  exact ⟨by first | rfl | (simp [errW_none, errW_some] <;> rfl) | (simp only [← hji12, ← hji14, ← hji16]; first | rfl | (simp [errW_none, errW_some] <;> rfl)) | (simp [*, errW_none, errW_some] <;> rfl), by repeat (first | (with_reducible first | exact HB.out | apply below_alloc | apply pw_below_drewN | apply below_drew1 | refine below_set ?_ GE457.out | refine below_set ?_ GE458.out | refine below_set ?_ GE459.out) | exact HB.out)⟩
 ·go_ret
  exact ⟨by first | rfl | (simp [errW_none, errW_some] <;> rfl) | (simp only [← hji12, ← hji14]; first | rfl | (simp [errW_none, errW_some] <;> rfl)) | (simp [*, errW_none, errW_some] <;> rfl), by repeat (first | (with_reducible first | exact HB.out | apply below_alloc | apply pw_below_drewN | apply below_drew1 | refine below_set ?_ GE457.out | refine below_set ?_ GE458.out | refine below_set ?_ GE459.out) | exact HB.out)⟩
 ·go_ret
  exact ⟨by first | rfl | (simp [errW_none, errW_some] <;> rfl) | (simp only [← hji12]; first | rfl | (simp [errW_none, errW_some] <;> rfl)) | (simp [*, errW_none, errW_some] <;> rfl), by repeat (first | (with_reducible first | exact HB.out | apply below_alloc | apply pw_below_drewN | apply below_drew1 | refine below_set ?_ GE457.out | refine below_set ?_ GE458.out | refine below_set ?_ GE459.out) | exact HB.out)⟩
 ·go_ret
  exact bF
 ·go_ret
  exact bF
 ·go_ret
  exact bF
 go_ret
 exact bF
end Go.Proofs.Ytfeekdoakoabeaa.G
