-- Written by a program of this session out of the translation; Lean checks it.
import Derived.Test.YtjmibjmlihmglaaGx0
import Derived.Test.YtjmibjmlihmglaaGx13
import Derived.Test.YtjmibjmlihmglaaGx14
import Derived.Test.YtjmibjmlihmglaaGx15
import Derived.Test.YtjmibjmlihmglaaGx20
import Derived.Test.YtjmibjmlihmglaaGx23
import Derived.Test.YtjmibjmlihmglaaGx24
namespace Go.Proofs.Ytjmibjmlihmglaa.G
open Go.RowKit Go.Proofs.YtjmibjmlihmglaaW.PrintWords Go.Proofs.YtjmibjmlihmglaaW.PrintLast Go.Proofs.YtjmibjmlihmglaaW.PrintMore
attribute [local go_sem] max2_int min2_int max_two min_two max_three min_three max_four min_four   -- for this text's walks alone
set_option linter.unusedVariables false
set_option linter.unusedSimpArgs false

/-! ### apogeeref12_Relate: function 48 -/
mutual
def apogeeref12_Relate.j0 : Nat → List (S41) → Bool → Int → Int → Int → Int → Option (Int)
 | 0, _, _, _, _, _, _ => none
 | k + 1, x1, x13, x572000, x572001, x572002, x572003 => if x13 = true then (some (-1)) else (apogeeref12_Relate.l0 k x1 0 x572000 x572001 x572002 x572003)
def apogeeref12_Relate.l0 : Nat → List (S41) → Int → Int → Int → Int → Int → Option (Int)
 | 0, _, _, _, _, _, _ => none
 | k + 1, x1, x5, x572000, x572001, x572002, x572003 => if x5 < (x1.length : Int) then (if 0 ≤ x5 then (if (x1.length : Int) = 0 then (none) else (if 0 ≤ (Int.tmod (wrap64 (x5 + 1)) (x1.length : Int)) then (if (Int.tmod (wrap64 (x5 + 1)) (x1.length : Int)) < (x1.length : Int) then ((apogeeref12_Meets.f k x572000 x572001 x572002 x572003 ((rd_T41 x1 x5).f0) ((rd_T41 x1 x5).f1) ((rd_T41 x1 (Int.tmod (wrap64 (x5 + 1)) (x1.length : Int))).f0) ((rd_T41 x1 (Int.tmod (wrap64 (x5 + 1)) (x1.length : Int))).f1)).bind fun t576 => (if t576 = true then (some 0) else (apogeeref12_Relate.l0 k x1 (wrap64 (x5 + 1)) x572000 x572001 x572002 x572003))) else (none)) else (none))) else (none)) else ((apogeeref11_Side.f k x1 x572000 x572001).bind fun t577 => (some t577))
end
def apogeeref12_Relate.f (k : Nat) (a0_0 : Int) (a0_1 : Int) (a0_2 : Int) (a0_3 : Int) (l1 : List (S41)) : Option (Int) := (apogeeref12_Right.f a0_0 a0_1 a0_2 a0_3).bind fun t572 => (if t572 = true then ((apogeeref11_Right.f k l1).bind fun t573 => (apogeeref12_Relate.j0 k l1 (!t573) a0_0 a0_1 a0_2 a0_3)) else (apogeeref12_Relate.j0 k l1 true a0_0 a0_1 a0_2 a0_3))
theorem apogeeref12_Relate.mono_l : ∀ k, (∀ y0 y1 y2 y3 y4 y5, LeO (apogeeref12_Relate.j0 k y0 y1 y2 y3 y4 y5) (apogeeref12_Relate.j0 (k + 1) y0 y1 y2 y3 y4 y5)) ∧ (∀ y0 y1 y2 y3 y4 y5, LeO (apogeeref12_Relate.l0 k y0 y1 y2 y3 y4 y5) (apogeeref12_Relate.l0 (k + 1) y0 y1 y2 y3 y4 y5))
 | 0 => ⟨fun _ _ _ _ _ _ r h => by simp [apogeeref12_Relate.j0] at h, fun _ _ _ _ _ _ r h => by simp [apogeeref12_Relate.l0] at h⟩
 | k + 1 => by
  obtain ⟨ih0, ih1⟩ := apogeeref12_Relate.mono_l k
  refine ⟨?_, ?_⟩
  ·intro y0 y1 y2 y3 y4 y5
   unfold apogeeref12_Relate.j0
   repeat' first
   | (with_reducible exact ih0 _ _ _ _ _ _)
   | (with_reducible exact ih1 _ _ _ _ _ _)
   | (with_reducible exact apogeeref11_Right.mono _ _)
   | (with_reducible exact apogeeref11_Side.mono _ _ _ _)
   | (with_reducible exact apogeeref12_Meets.mono _ _ _ _ _ _ _ _ _)
   | (with_reducible exact LeO.refl _)
   | (with_reducible exact LeO.none _)
   | (with_reducible refine LeO.ite ?_ ?_)
   | (with_reducible refine LeO.bind ?_ (fun _ => ?_))
   | exact ih0 _ _ _ _ _ _
   | exact ih1 _ _ _ _ _ _
   | exact apogeeref11_Right.mono _ _
   | exact apogeeref11_Side.mono _ _ _ _
   | exact apogeeref12_Meets.mono _ _ _ _ _ _ _ _ _
   | exact LeO.none _
   | refine LeO.ite ?_ ?_
   | refine LeO.bind ?_ (fun _ => ?_)
  ·intro y0 y1 y2 y3 y4 y5
   unfold apogeeref12_Relate.l0
   repeat' first
   | (with_reducible exact ih0 _ _ _ _ _ _)
   | (with_reducible exact ih1 _ _ _ _ _ _)
   | (with_reducible exact apogeeref11_Right.mono _ _)
   | (with_reducible exact apogeeref11_Side.mono _ _ _ _)
   | (with_reducible exact apogeeref12_Meets.mono _ _ _ _ _ _ _ _ _)
   | (with_reducible exact LeO.refl _)
   | (with_reducible exact LeO.none _)
   | (with_reducible refine LeO.ite ?_ ?_)
   | (with_reducible refine LeO.bind ?_ (fun _ => ?_))
   | exact ih0 _ _ _ _ _ _
   | exact ih1 _ _ _ _ _ _
   | exact apogeeref11_Right.mono _ _
   | exact apogeeref11_Side.mono _ _ _ _
   | exact apogeeref12_Meets.mono _ _ _ _ _ _ _ _ _
   | exact LeO.none _
   | refine LeO.ite ?_ ?_
   | refine LeO.bind ?_ (fun _ => ?_)
theorem apogeeref12_Relate.mono : ∀ a0 a1 a2 a3 a4 k, LeO (apogeeref12_Relate.f k a0 a1 a2 a3 a4) (apogeeref12_Relate.f (k + 1) a0 a1 a2 a3 a4) := by
 intro a0 a1 a2 a3 a4 k
 obtain ⟨ih0, ih1⟩ := apogeeref12_Relate.mono_l k
 unfold apogeeref12_Relate.f
 repeat' first
   | (with_reducible exact ih0 _ _ _ _ _ _)
   | (with_reducible exact ih1 _ _ _ _ _ _)
   | (with_reducible exact apogeeref11_Right.mono _ _)
   | (with_reducible exact apogeeref11_Side.mono _ _ _ _)
   | (with_reducible exact apogeeref12_Meets.mono _ _ _ _ _ _ _ _ _)
   | (with_reducible exact LeO.refl _)
   | (with_reducible exact LeO.none _)
   | (with_reducible refine LeO.ite ?_ ?_)
   | (with_reducible refine LeO.bind ?_ (fun _ => ?_))
   | exact ih0 _ _ _ _ _ _
   | exact ih1 _ _ _ _ _ _
   | exact apogeeref11_Right.mono _ _
   | exact apogeeref11_Side.mono _ _ _ _
   | exact apogeeref12_Meets.mono _ _ _ _ _ _ _ _ _
   | exact LeO.none _
   | refine LeO.ite ?_ ?_
   | refine LeO.bind ?_ (fun _ => ?_)
def apogeeref12_Relate.T6 : Bool × List (List Nat × List Nat) := (true, [([], []), ([], []), ([], []), ([1, 2], [1, 2]), ([3], [3]), ([], []), ([], []), ([6], [6]), ([], []), ([8], [8]), ([7, 9], [7, 9]), ([5, 10], [5, 10]), ([11], [11]), ([0, 4, 12], [0, 4, 12])])
def apogeeref12_Relate.B6 : List Nat := [0, 0, 0, 6, 14, 0, 0, 64, 0, 256, 960, 2016, 4064, 8191]
theorem apogeeref12_Relate.tab6 : rtab .any (opsOf Try.f48 6) = apogeeref12_Relate.T6 := by kernel_rfl
theorem apogeeref12_Relate.bits6 : waitsOk apogeeref12_Relate.T6.2 apogeeref12_Relate.B6 = true := by kernel_rfl
set_option maxHeartbeats 8000000 in
set_option maxRecDepth 100000 in
theorem apogeeref12_Relate.calls (k : Nat) (a0_0 : Int) (a0_1 : Int) (a0_2 : Int) (a0_3 : Int) (A1 : Option Addr) (c1 : Nat) (l1 : List (S41)) (r : Int) (w : World) (hr1 : Kd.C k41 w A1 l1.length l1) (hc1 : l1.length ≤ c1) (h : apogeeref12_Relate.f k a0_0 a0_1 a0_2 a0_3 l1 = some r) :
  Calls Try.prog 48 #[.agg #[.int .i64 a0_0, .int .i64 a0_1, .int .i64 a0_2, .int .i64 a0_3], .slice A1 l1.length c1] w fun e w' => e = .returned (.int .i64 r) ∧ Below w.heap.size w w' := by
 have hu44 := Try.underlying44
 have hu41 := Try.underlying41
 have HR1 := bA hr1
 have HC1 := bA hc1
 clear hr1 hc1
 have HB := bA (Below.refl w.heap.size w)
 have H : ((apogeeref12_Right.f a0_0 a0_1 a0_2 a0_3).bind fun t572 => (if t572 = true then ((apogeeref11_Right.f k l1).bind fun t573 => (apogeeref12_Relate.j0 k l1 (!t573) a0_0 a0_1 a0_2 a0_3)) else (apogeeref12_Relate.j0 k l1 true a0_0 a0_1 a0_2 a0_3))) = some r := h
 clear h
 have HC3 := bA H
 clear H
 go_enter Try.func48, Try.ntmps48
 go_upto_region 1 with (first | ((with_reducible refine gate_dst (N := 2) rfl ?_); refine bE (N := 2) (cs := #[.int .i64 a0_0, .int .i64 a0_1, .int .i64 a0_2, .int .i64 a0_3]) (t := 44) ?_; intro gb571 hg w4 hbox hb; have n0_ := bA (bS hb); have n1_ := bA (hbox); have n2_ := bA (bZ hg); have n3_ := bA (bZ hg); clear HB; have HB := n0_; have BK571 := n1_; have GW571 := n2_; have GE571 := n3_; clear n0_ n1_ n2_ n3_; clear hb hbox hg))
 (try simp only [Act.put, List.setIfInBounds_toArray, List.set_cons_zero, List.set_cons_succ])
 go_cut [13] (fun v13 wc => ∃ (kq : Nat) (x13_2 : Bool), v13 = .bool x13_2 ∧ Aside0 (apogeeref12_Relate.j0 kq l1 x13_2 a0_0 a0_1 a0_2 a0_3 = some r) ∧ Aside0 (kq ≤ k) ∧ Aside0 (wc.heap[gb571]? = some (.cells #[.int .i64 a0_0, .int .i64 a0_1, .int .i64 a0_2, .int .i64 a0_3] 44 (0, 0))) ∧ Aside0 (Below w.heap.size w wc))
 case first =>
  have H := HC3.out
  clear HC3
  replace H := Option.bind_eq_some_iff.mp H
  obtain ⟨t572, A50, H⟩ := H
  have A5 := bA A50
  clear A50
  by_cases c6 : t572 = true
  subst c6
  rw [if_pos rfl] at H
  replace H := Option.bind_eq_some_iff.mp H
  obtain ⟨t573, A70, H⟩ := H
  have A7 := bA A70
  clear A70
  have H' := bA H
  clear H
  obtain ⟨hcz8_0, hcz8_1, hcz8_2, hcz8_3, hfz8_0, hfz8_1, hfz8_2, hfz8_3⟩ := bc4 BK571
  rotate_left
  replace c6 := Bool.eq_false_iff.mpr c6
  subst c6
  rw [if_neg bn] at H
  have H' := bA H
  clear H
  obtain ⟨hcz11_0, hcz11_1, hcz11_2, hcz11_3, hfz11_0, hfz11_1, hfz11_2, hfz11_3⟩ := bc4 BK571
  rotate_left
  all_goals go_wp2_with (first | ((first | ((with_reducible refine gate_callee (f := 49) rfl ?_); refine bC (some 7) Try.func49 #[.agg #[.int .i64 a0_0, .int .i64 a0_1, .int .i64 a0_2, .int .i64 a0_3]] ?_) | go_at_call 49); (with_reducible refine (apogeeref12_Right.calls a0_0 a0_1 a0_2 a0_3 true _ A5.out).mono ?_); rintro e wz0 ⟨rfl, hb⟩; (first | refine ⟨_, rfl, ?_⟩ | skip); replace BK571 := bA (bB BK571 hb); replace HB := bA (bS hb); (try clear hb)) | (go_at_call 28; (with_reducible refine (apogeeref11_Right.calls k _ _ l1 t573 _ ?side1 ?side2 A7.out).mono ?_); (case side1 => exact bQ HR1); (case side2 => exact HC1.out); rintro e wz1 ⟨rfl, hb⟩; replace BK571 := bA (bB BK571 hb); replace HB := bA (bS hb); (try clear hb)) | ((first | ((with_reducible refine gate_callee (f := 49) rfl ?_); refine bC (some 7) Try.func49 #[.agg #[.int .i64 a0_0, .int .i64 a0_1, .int .i64 a0_2, .int .i64 a0_3]] ?_) | go_at_call 49); (with_reducible refine (apogeeref12_Right.calls a0_0 a0_1 a0_2 a0_3 false _ A5.out).mono ?_); rintro e wz0 ⟨rfl, hb⟩; (first | refine ⟨_, rfl, ?_⟩ | skip); replace BK571 := bA (bB BK571 hb); replace HB := bA (bS hb); (try clear hb)))
  ·go_meet
   case rel => exact ⟨_, (!t573), bs, H', ⟨by first | omega | exact Nat.le_refl _⟩, ⟨by (with_reducible repeat (first | refine blk_drewN ?_ _ | refine blk_drew ?_ | refine blk_alloc ?_ _)); exact BK571.out⟩, ⟨bX⟩⟩
  go_meet
  case rel => exact ⟨_, (true), bs, H', ⟨by first | omega | exact Nat.le_refl _⟩, ⟨by (with_reducible repeat (first | refine blk_drewN ?_ _ | refine blk_drew ?_ | refine blk_alloc ?_ _)); exact BK571.out⟩, ⟨bX⟩⟩
 clear HC3
 try clear c1
 try clear p2
 try clear c4
 try clear c6
 try clear hcz11_0
 try clear hcz11_1
 try clear hcz11_2
 try clear hcz11_3
 try clear hcz8_0
 try clear hcz8_1
 try clear hcz8_2
 try clear hcz8_3
 try clear hfz11_0
 try clear hfz11_1
 try clear hfz11_2
 try clear hfz11_3
 try clear hfz8_0
 try clear hfz8_1
 try clear hfz8_2
 try clear hfz8_3
 obtain ⟨kq, x13_2, rfl, HA, HJ2, BK571, HB⟩ := hcut
 cases kq with
 | zero => exact absurd HA.out (by simp [apogeeref12_Relate.j0])
 | succ kj2 =>
  have H := HA.out
  clear HA
  simp only [apogeeref12_Relate.j0] at H
  by_cases c13 : x13_2 = true
  ·subst c13
   rw [if_pos rfl] at H
   obtain rfl := Option.some.inj H
   go_wp2
   go_ret
   exact bF
  replace c13 := Bool.eq_false_iff.mpr c13
  subst c13
  rw [if_neg bn] at H
  have H' := bA H
  clear H
  go_wp2
  go_loopg [5] kj2 (fun kq v5 w' => ∃ (x5_2 : Int), v5 = .int .i64 x5_2 ∧ Aside0 (apogeeref12_Relate.l0 kq l1 x5_2 a0_0 a0_1 a0_2 a0_3 = some r) ∧ Aside0 (kq ≤ kj2) ∧ Aside0 (w'.heap[gb571]? = some (.cells #[.int .i64 a0_0, .int .i64 a0_1, .int .i64 a0_2, .int .i64 a0_3] 44 (0, 0))) ∧ Aside0 (Below w.heap.size w w'))
  case atStart => exact ⟨(0), bs, H', ⟨Nat.le_refl _⟩, ⟨by (with_reducible repeat (first | refine blk_drewN ?_ _ | refine blk_drew ?_ | refine blk_alloc ?_ _)); exact BK571.out⟩, ⟨bX⟩⟩
  clear H'
  try clear c1
  try clear p2
  try clear c4
  try clear c6
  try clear c13
  try clear hcz11_0
  try clear hcz11_1
  try clear hcz11_2
  try clear hcz11_3
  try clear hcz8_0
  try clear hcz8_1
  try clear hcz8_2
  try clear hcz8_3
  try clear hfz11_0
  try clear hfz11_1
  try clear hfz11_2
  try clear hfz11_3
  try clear hfz8_0
  try clear hfz8_1
  try clear hfz8_2
  try clear hfz8_3
  try clear p2
  obtain ⟨x5_2, rfl, HA, HK2, BK571, HB⟩ := hrel
  cases gk with
  | zero => exact absurd HA.out (by simp [apogeeref12_Relate.l0])
  | succ k2 =>
   have H := HA.out
   clear HA
   simp only [apogeeref12_Relate.l0] at H
   by_cases c14 : x5_2 < (l1.length : Int)
   rotate_left
   ·rw [if_neg c14] at H
    have c14b0 : decide (x5_2 < (l1.length : Int)) = false := decide_eq_false c14
    clear c14
    replace H := Option.bind_eq_some_iff.mp H
    obtain ⟨t577, A260, H⟩ := H
    have A26 := bA A260
    clear A260
    obtain rfl := Option.some.inj H
    obtain ⟨hcz27_0, hcz27_1, hcz27_2, hcz27_3, hfz27_0, hfz27_1, hfz27_2, hfz27_3⟩ := bc4 BK571
    go_wp2_with (first | ((first | ((with_reducible refine gate_callee (f := 33) rfl ?_); refine bC (some 37) Try.func33 #[.slice A1 l1.length c1, .agg #[.int .i64 a0_0, .int .i64 a0_1]] ?_) | go_at_call 33); (with_reducible refine (apogeeref11_Side.calls k2 _ _ l1 a0_0 a0_1 t577 _ ?side1 ?side2 A26.out).mono ?_); (case side1 => exact bQ HR1); (case side2 => exact HC1.out); rintro e w28 ⟨rfl, hb⟩; (first | refine ⟨_, rfl, ?_⟩ | skip); replace BK571 := bA (bB BK571 hb); replace HB := bA (bS hb); (try clear hb)))
    go_ret
    exact bF
   rw [if_pos c14] at H
   have c14b0 : decide (x5_2 < (l1.length : Int)) = true := decide_eq_true c14
   clear c14
   by_cases c15 : 0 ≤ x5_2
   rotate_left
   ·rw [if_neg c15] at H
    exact absurd H (by simp)
   rw [if_pos c15] at H
   have c15b0 : decide (0 ≤ x5_2) = true := decide_eq_true c15
   clear c15
   by_cases c16 : (l1.length : Int) = 0
   ·rw [if_pos c16] at H
    exact absurd H (by simp)
   rw [if_neg c16] at H
   have c16b0 : ((l1.length : Int) == 0) = false := beq_eq_false_iff_ne.mpr c16
   have c16b1 : ((l1.length : Int) != 0) = true := bne_iff_ne.mpr c16
   have c16b2 : ¬ (l1 = []) := fun h_ => c16 (by rw [h_]; rfl)
   obtain ⟨ji17, hji17⟩ : ∃ j_ : Int, (Int.tmod (wrap64 (x5_2 + 1)) (l1.length : Int)) = j_ := ⟨_, rfl⟩
   replace H : (if 0 ≤ (ji17) then (if (ji17) < (l1.length : Int) then ((apogeeref12_Meets.f k2 a0_0 a0_1 a0_2 a0_3 ((rd_T41 l1 x5_2).f0) ((rd_T41 l1 x5_2).f1) ((rd_T41 l1 (ji17)).f0) ((rd_T41 l1 (ji17)).f1)).bind fun t576 => (if t576 = true then (some 0) else (apogeeref12_Relate.l0 k2 l1 (wrap64 (x5_2 + 1)) a0_0 a0_1 a0_2 a0_3))) else (none)) else (none)) = some r := by first | (rw [hji17] at H; exact H) | (simp only [hji17] at H ⊢; exact H)
   by_cases c18 : 0 ≤ (ji17)
   rotate_left
   ·rw [if_neg c18] at H
    exact absurd H (by simp)
   rw [if_pos c18] at H
   have c18b0 : decide (0 ≤ (ji17)) = true := decide_eq_true c18
   clear c18
   by_cases c19 : (ji17) < (l1.length : Int)
   rotate_left
   ·rw [if_neg c19] at H
    exact absurd H (by simp)
   rw [if_pos c19] at H
   have c19b0 : decide ((ji17) < (l1.length : Int)) = true := decide_eq_true c19
   clear c19
   replace H := Option.bind_eq_some_iff.mp H
   obtain ⟨t576, A200, H⟩ := H
   have A20 := bA A200
   clear A200
   by_cases c21 : t576 = true
   ·subst c21
    rw [if_pos rfl] at H
    obtain rfl := Option.some.inj H
    try go_wp2
    replace BK571 := bA (blk_drew BK571.out)
    replace HB := bA (below_drew1 HB.out)
    have p574 : 0 ≤ (x5_2 : Int) := bo
    have q574 : x5_2 < (l1.length : Int) := bo
    obtain ⟨ad574, e574, hx574_0, hx574_1⟩ := at_T41 HR1.out x5_2 p574 q574
    have hw574_1 := hx574_1
    have hw574_0 := hx574_0
    cases e574
    replace hx574_0 := bK hx574_0
    replace hx574_1 := bK hx574_1
    replace p574 := eq_true p574
    replace q574 := eq_true q574
    have p575 : 0 ≤ ((ji17) : Int) := bo
    have q575 : (ji17) < (l1.length : Int) := bo
    obtain ⟨ad575, e575, hx575_0, hx575_1⟩ := at_T41 HR1.out (ji17) p575 q575
    have hw575_1 := hx575_1
    have hw575_0 := hx575_0
    obtain rfl : ad574 = ad575 := (by injection e575)
    replace hx575_0 := bK hx575_0
    replace hx575_1 := bK hx575_1
    replace p575 := eq_true p575
    replace q575 := eq_true q575
    refine start_ (n := 14) (S := fun w' => w'.cell? ⟨gb571, 0, none⟩ = some (.int .i64 a0_0) ∧ w'.cell? ⟨gb571, 1, none⟩ = some (.int .i64 a0_1) ∧ w'.cell? ⟨gb571, 2, none⟩ = some (.int .i64 a0_2) ∧ w'.cell? ⟨gb571, 3, none⟩ = some (.int .i64 a0_3) ∧ w'.cell? (ad574.add ((x5_2).toNat * 2)) = some (.int .i64 ((rd_T41 l1 x5_2).f0)) ∧ w'.cell? ⟨(ad574.add ((x5_2).toNat * 2)).block, (ad574.add ((x5_2).toNat * 2)).off + 1, none⟩ = some (.int .i64 ((rd_T41 l1 x5_2).f1)) ∧ w'.cell? (ad574.add (((ji17)).toNat * 2)) = some (.int .i64 ((rd_T41 l1 (ji17)).f0)) ∧ w'.cell? ⟨(ad574.add (((ji17)).toNat * 2)).block, (ad574.add (((ji17)).toNat * 2)).off + 1, none⟩ = some (.int .i64 ((rd_T41 l1 (ji17)).f1))) (ds := []) #[false,false,false,false,false,false,false,false,false,false,false,false,false,false] (by kernel_rfl) rfl rfl ⟨bq BK571 0, bq BK571 1, bq BK571 2, bq BK571 3, (bK hw574_0), (bK hw574_1), (bK hw575_0), (bK hw575_1)⟩ (fun hHeld => ?_); refine with_tabW apogeeref12_Relate.tab6 apogeeref12_Relate.bits6 (fun HT_ HW_ => ?_)
    generalize wr.drew = w22 at BK571 HB hx574_0 hx574_1 hx575_0 hx575_1 hHeld ⊢
    refine bU (i := 1) (N := some 21) ?_
    refine bU (i := 2) (N := some 22) ?_
    refine bU (i := 3) (N := some 23) ?_
    refine bU (i := 5) (N := some 25) ?_
    refine bU (i := 6) (N := some 26) ?_
    refine bU (i := 7) (N := some 27) ?_
    refine bU (i := 8) (N := some 28) ?_
    refine bU (i := 9) (N := some 29) ?_
    refine bU (i := 10) (N := some 30) ?_
    refine bU (i := 11) (N := some 31) ?_
    refine bW (i := 0) (N := some 20) hHeld ?_
    refine bW (i := 4) (N := some 24) hHeld ?_
    refine bW (i := 12) (N := some 32) hHeld ?_
    refine one_ (i := 13) (N := some 33) #[true,true,true,true,true,true,true,true,true,true,true,true,true,true] rfl rfl (one_of HT_.out (by kernel_rfl)) (by decide) (fun K hK => ?_)
    refine goes_ Try.func45 (by kernel_rfl) rfl #[.agg #[.int .i64 a0_0, .int .i64 a0_1, .int .i64 a0_2, .int .i64 a0_3], .agg #[.int .i64 ((rd_T41 l1 x5_2).f0), .int .i64 ((rd_T41 l1 x5_2).f1)], .agg #[.int .i64 ((rd_T41 l1 (ji17)).f0), .int .i64 ((rd_T41 l1 (ji17)).f1)]] (by rfl) rfl rfl (by (try simp only [List.map_toArray, List.map_cons, List.map_nil]); first | done | (simp only [hji17]; rfl) | rfl | (simp only [List.length_drop, List.length_take]; rfl)) ?_
    with_reducible refine (apogeeref12_Meets.calls k2 a0_0 a0_1 a0_2 a0_3 ((rd_T41 l1 x5_2).f0) ((rd_T41 l1 x5_2).f1) ((rd_T41 l1 (ji17)).f0) ((rd_T41 l1 (ji17)).f1) true _ A20.out).mono ?_
    rintro e w23 ⟨rfl, hb⟩
    refine ⟨_, rfl, ?_⟩
    replace BK571 := bA (bB BK571 hb)
    replace HB := bA (bS hb)
    (try clear hb)
    refine hK.out _ _ ⟨bq BK571 0, bq BK571 1, bq BK571 2, bq BK571 3, (bK hw574_0), (bK hw574_1), (bK hw575_0), (bK hw575_1)⟩ (fun hHeld => ?_)
    clear hK K
    refine bH ?_
    refine done_ (done_of HT_.out (by kernel_rfl)) ?_
    try go_wp2
    go_ret
    exact ⟨by first | rfl | (simp [errW_none, errW_some] <;> rfl) | (simp only [← hji17]; first | rfl | (simp [errW_none, errW_some] <;> rfl)) | (simp [*, errW_none, errW_some] <;> rfl), by repeat (first | (with_reducible first | exact HB.out | apply below_alloc | apply pw_below_drewN | apply below_drew1 | refine below_set ?_ GE571.out) | exact HB.out)⟩
   replace c21 := Bool.eq_false_iff.mpr c21
   subst c21
   rw [if_neg bn] at H
   have H' := bA H
   clear H
   try go_wp2
   replace BK571 := bA (blk_drew BK571.out)
   replace HB := bA (below_drew1 HB.out)
   have p574 : 0 ≤ (x5_2 : Int) := bo
   have q574 : x5_2 < (l1.length : Int) := bo
   obtain ⟨ad574, e574, hx574_0, hx574_1⟩ := at_T41 HR1.out x5_2 p574 q574
   have hw574_1 := hx574_1
   have hw574_0 := hx574_0
   cases e574
   replace hx574_0 := bK hx574_0
   replace hx574_1 := bK hx574_1
   replace p574 := eq_true p574
   replace q574 := eq_true q574
   have p575 : 0 ≤ ((ji17) : Int) := bo
   have q575 : (ji17) < (l1.length : Int) := bo
   obtain ⟨ad575, e575, hx575_0, hx575_1⟩ := at_T41 HR1.out (ji17) p575 q575
   have hw575_1 := hx575_1
   have hw575_0 := hx575_0
   obtain rfl : ad574 = ad575 := (by injection e575)
   replace hx575_0 := bK hx575_0
   replace hx575_1 := bK hx575_1
   replace p575 := eq_true p575
   replace q575 := eq_true q575
   refine start_ (n := 14) (S := fun w' => w'.cell? ⟨gb571, 0, none⟩ = some (.int .i64 a0_0) ∧ w'.cell? ⟨gb571, 1, none⟩ = some (.int .i64 a0_1) ∧ w'.cell? ⟨gb571, 2, none⟩ = some (.int .i64 a0_2) ∧ w'.cell? ⟨gb571, 3, none⟩ = some (.int .i64 a0_3) ∧ w'.cell? (ad574.add ((x5_2).toNat * 2)) = some (.int .i64 ((rd_T41 l1 x5_2).f0)) ∧ w'.cell? ⟨(ad574.add ((x5_2).toNat * 2)).block, (ad574.add ((x5_2).toNat * 2)).off + 1, none⟩ = some (.int .i64 ((rd_T41 l1 x5_2).f1)) ∧ w'.cell? (ad574.add (((ji17)).toNat * 2)) = some (.int .i64 ((rd_T41 l1 (ji17)).f0)) ∧ w'.cell? ⟨(ad574.add (((ji17)).toNat * 2)).block, (ad574.add (((ji17)).toNat * 2)).off + 1, none⟩ = some (.int .i64 ((rd_T41 l1 (ji17)).f1))) (ds := []) #[false,false,false,false,false,false,false,false,false,false,false,false,false,false] (by kernel_rfl) rfl rfl ⟨bq BK571 0, bq BK571 1, bq BK571 2, bq BK571 3, (bK hw574_0), (bK hw574_1), (bK hw575_0), (bK hw575_1)⟩ (fun hHeld => ?_); refine with_tabW apogeeref12_Relate.tab6 apogeeref12_Relate.bits6 (fun HT_ HW_ => ?_)
   generalize wr.drew = w24 at BK571 HB hx574_0 hx574_1 hx575_0 hx575_1 hHeld ⊢
   refine bU (i := 1) (N := some 21) ?_
   refine bU (i := 2) (N := some 22) ?_
   refine bU (i := 3) (N := some 23) ?_
   refine bU (i := 5) (N := some 25) ?_
   refine bU (i := 6) (N := some 26) ?_
   refine bU (i := 7) (N := some 27) ?_
   refine bU (i := 8) (N := some 28) ?_
   refine bU (i := 9) (N := some 29) ?_
   refine bU (i := 10) (N := some 30) ?_
   refine bU (i := 11) (N := some 31) ?_
   refine bW (i := 0) (N := some 20) hHeld ?_
   refine bW (i := 4) (N := some 24) hHeld ?_
   refine bW (i := 12) (N := some 32) hHeld ?_
   refine one_ (i := 13) (N := some 33) #[true,true,true,true,true,true,true,true,true,true,true,true,true,true] rfl rfl (one_of HT_.out (by kernel_rfl)) (by decide) (fun K hK => ?_)
   refine goes_ Try.func45 (by kernel_rfl) rfl #[.agg #[.int .i64 a0_0, .int .i64 a0_1, .int .i64 a0_2, .int .i64 a0_3], .agg #[.int .i64 ((rd_T41 l1 x5_2).f0), .int .i64 ((rd_T41 l1 x5_2).f1)], .agg #[.int .i64 ((rd_T41 l1 (ji17)).f0), .int .i64 ((rd_T41 l1 (ji17)).f1)]] (by rfl) rfl rfl (by (try simp only [List.map_toArray, List.map_cons, List.map_nil]); first | done | (simp only [hji17]; rfl) | rfl | (simp only [List.length_drop, List.length_take]; rfl)) ?_
   with_reducible refine (apogeeref12_Meets.calls k2 a0_0 a0_1 a0_2 a0_3 ((rd_T41 l1 x5_2).f0) ((rd_T41 l1 x5_2).f1) ((rd_T41 l1 (ji17)).f0) ((rd_T41 l1 (ji17)).f1) false _ A20.out).mono ?_
   rintro e w25 ⟨rfl, hb⟩
   refine ⟨_, rfl, ?_⟩
   replace BK571 := bA (bB BK571 hb)
   replace HB := bA (bS hb)
   (try clear hb)
   refine hK.out _ _ ⟨bq BK571 0, bq BK571 1, bq BK571 2, bq BK571 3, (bK hw574_0), (bK hw574_1), (bK hw575_0), (bK hw575_1)⟩ (fun hHeld => ?_)
   clear hK K
   refine bH ?_
   refine done_ (done_of HT_.out (by kernel_rfl)) ?_
   try go_wp2
   go_roundg k2
   case measure => have := HJ2.out; have := HK2.out; omega
   case rel => exact ⟨(wrap64 (x5_2 + 1)), bs, H', ⟨by have := HJ2.out; have := HK2.out; omega⟩, ⟨by (with_reducible repeat (first | refine blk_drewN ?_ _ | refine blk_drew ?_ | refine blk_alloc ?_ _)); exact BK571.out⟩, ⟨bX⟩⟩
/-! ### apogeelaw12_BoxRelates: function 11 -/
def apogeelaw12_BoxRelates.j0 : Nat → List (S41) → Bool → Int → Int → Int → Int → Option (Bool)
 | 0, _, _, _, _, _, _ => none
 | k + 1, x1, x11, x579000, x579001, x579002, x579003 => if x11 = true then ((apogeelaw12_awake.f k).bind fun t580 => (some t580)) else ((box_Relate.f k x579000 x579001 x579002 x579003 x1).bind fun t581 => ((apogeeref12_Relate.f k x579000 x579001 x579002 x579003 x1).bind fun t582 => (some (t581 == t582))))
def apogeelaw12_BoxRelates.f (k : Nat) (a0_0 : Int) (a0_1 : Int) (a0_2 : Int) (a0_3 : Int) (l1 : List (S41)) : Option (Bool) := (apogeelaw12_awake.f k).bind fun t579 => (if t579 = true then (apogeelaw12_BoxRelates.j0 k l1 (decide ((l1.length : Int) > 12)) a0_0 a0_1 a0_2 a0_3) else (apogeelaw12_BoxRelates.j0 k l1 true a0_0 a0_1 a0_2 a0_3))
theorem apogeelaw12_BoxRelates.mono_l : ∀ k, (∀ y0 y1 y2 y3 y4 y5, LeO (apogeelaw12_BoxRelates.j0 k y0 y1 y2 y3 y4 y5) (apogeelaw12_BoxRelates.j0 (k + 1) y0 y1 y2 y3 y4 y5))
 | 0 => fun _ _ _ _ _ _ r h => by simp [apogeelaw12_BoxRelates.j0] at h
 | k + 1 => by
  have ih0 := apogeelaw12_BoxRelates.mono_l k
  ·intro y0 y1 y2 y3 y4 y5
   unfold apogeelaw12_BoxRelates.j0
   repeat' first
   | (with_reducible exact ih0 _ _ _ _ _ _)
   | (with_reducible exact apogeelaw12_awake.mono _)
   | (with_reducible exact apogeeref12_Relate.mono _ _ _ _ _ _)
   | (with_reducible exact box_Relate.mono _ _ _ _ _ _)
   | (with_reducible exact LeO.refl _)
   | (with_reducible exact LeO.none _)
   | (with_reducible refine LeO.ite ?_ ?_)
   | (with_reducible refine LeO.bind ?_ (fun _ => ?_))
   | exact ih0 _ _ _ _ _ _
   | exact apogeelaw12_awake.mono _
   | exact apogeeref12_Relate.mono _ _ _ _ _ _
   | exact box_Relate.mono _ _ _ _ _ _
   | exact LeO.none _
   | refine LeO.ite ?_ ?_
   | refine LeO.bind ?_ (fun _ => ?_)
theorem apogeelaw12_BoxRelates.mono : ∀ a0 a1 a2 a3 a4 k, LeO (apogeelaw12_BoxRelates.f k a0 a1 a2 a3 a4) (apogeelaw12_BoxRelates.f (k + 1) a0 a1 a2 a3 a4) := by
 intro a0 a1 a2 a3 a4 k
 have ih0 := apogeelaw12_BoxRelates.mono_l k
 unfold apogeelaw12_BoxRelates.f
 repeat' first
   | (with_reducible exact ih0 _ _ _ _ _ _)
   | (with_reducible exact apogeelaw12_awake.mono _)
   | (with_reducible exact apogeeref12_Relate.mono _ _ _ _ _ _)
   | (with_reducible exact box_Relate.mono _ _ _ _ _ _)
   | (with_reducible exact LeO.refl _)
   | (with_reducible exact LeO.none _)
   | (with_reducible refine LeO.ite ?_ ?_)
   | (with_reducible refine LeO.bind ?_ (fun _ => ?_))
   | exact ih0 _ _ _ _ _ _
   | exact apogeelaw12_awake.mono _
   | exact apogeeref12_Relate.mono _ _ _ _ _ _
   | exact box_Relate.mono _ _ _ _ _ _
   | exact LeO.none _
   | refine LeO.ite ?_ ?_
   | refine LeO.bind ?_ (fun _ => ?_)
def apogeelaw12_BoxRelates.T3 : Bool × List (List Nat × List Nat) := (true, [([], []), ([], []), ([0, 1], [0, 1]), ([], []), ([], []), ([3, 4, 2], [3, 4]), ([2, 5], [2, 5]), ([6, 5, 0, 1, 2, 3, 4, 5, 6], [6])])
def apogeelaw12_BoxRelates.B3 : List Nat := [0, 0, 3, 0, 0, 31, 63, 127]
theorem apogeelaw12_BoxRelates.tab3 : rtab .any (opsOf Try.f11 3) = apogeelaw12_BoxRelates.T3 := by kernel_rfl
theorem apogeelaw12_BoxRelates.bits3 : waitsOk apogeelaw12_BoxRelates.T3.2 apogeelaw12_BoxRelates.B3 = true := by kernel_rfl
set_option maxHeartbeats 8000000 in
set_option maxRecDepth 100000 in
theorem apogeelaw12_BoxRelates.calls (k : Nat) (a0_0 : Int) (a0_1 : Int) (a0_2 : Int) (a0_3 : Int) (A1 : Option Addr) (c1 : Nat) (l1 : List (S41)) (r : Bool) (w : World) (hr1 : Kd.C k41 w A1 l1.length l1) (hc1 : l1.length ≤ c1) (h : apogeelaw12_BoxRelates.f k a0_0 a0_1 a0_2 a0_3 l1 = some r) :
  Calls Try.prog 11 #[.agg #[.int .i64 a0_0, .int .i64 a0_1, .int .i64 a0_2, .int .i64 a0_3], .slice A1 l1.length c1] w fun e w' => e = .returned (.bool r) ∧ Below w.heap.size w w' := by
 have hu44 := Try.underlying44
 have HR1 := bA hr1
 have HC1 := bA hc1
 clear hr1 hc1
 have HB := bA (Below.refl w.heap.size w)
 have H : ((apogeelaw12_awake.f k).bind fun t579 => (if t579 = true then (apogeelaw12_BoxRelates.j0 k l1 (decide ((l1.length : Int) > 12)) a0_0 a0_1 a0_2 a0_3) else (apogeelaw12_BoxRelates.j0 k l1 true a0_0 a0_1 a0_2 a0_3))) = some r := h
 clear h
 have HC3 := bA H
 clear H
 go_enter Try.func11, Try.ntmps11
 go_upto_region 1 with (first | ((with_reducible refine gate_dst (N := 2) rfl ?_); (try (refine gate_guard (by rfl) ?_; dsimp only)); refine bE (N := 2) (cs := #[.int .i64 a0_0, .int .i64 a0_1, .int .i64 a0_2, .int .i64 a0_3]) (t := 44) ?_; intro gb578 hg w4 hbox hb; have n0_ := bA (bS hb); have n1_ := bA (hbox); have n2_ := bA (bZ hg); have n3_ := bA (bZ hg); clear HB; have HB := n0_; have BK578 := n1_; have GW578 := n2_; have GE578 := n3_; clear n0_ n1_ n2_ n3_; clear hb hbox hg))
 (try simp only [Act.put, List.setIfInBounds_toArray, List.set_cons_zero, List.set_cons_succ])
 go_cut [11] (fun v11 wc => ∃ (kq : Nat) (x11_2 : Bool), v11 = .bool x11_2 ∧ Aside0 (apogeelaw12_BoxRelates.j0 kq l1 x11_2 a0_0 a0_1 a0_2 a0_3 = some r) ∧ Aside0 (kq ≤ k) ∧ Aside0 (wc.heap[gb578]? = some (.cells #[.int .i64 a0_0, .int .i64 a0_1, .int .i64 a0_2, .int .i64 a0_3] 44 (0, 0))) ∧ Aside0 (Below w.heap.size w wc))
 case first =>
  have H := HC3.out
  clear HC3
  replace H := Option.bind_eq_some_iff.mp H
  obtain ⟨t579, A50, H⟩ := H
  have A5 := bA A50
  clear A50
  by_cases c6 : t579 = true
  subst c6
  rw [if_pos rfl] at H
  have H' := bA H
  clear H
  rotate_left
  replace c6 := Bool.eq_false_iff.mpr c6
  subst c6
  rw [if_neg bn] at H
  have H' := bA H
  clear H
  rotate_left
  all_goals go_wp2_with (first | ((first | ((with_reducible refine gate_callee (f := 44) rfl ?_); refine bC (some 5) Try.func44 #[] ?_) | go_at_call 44); (with_reducible refine (apogeelaw12_awake.calls k  true _ A5.out).mono ?_); rintro e wz0 ⟨rfl, hb⟩; (first | refine ⟨_, rfl, ?_⟩ | skip); replace BK578 := bA (bB BK578 hb); replace HB := bA (bS hb); (try clear hb)) | ((first | ((with_reducible refine gate_callee (f := 44) rfl ?_); refine bC (some 5) Try.func44 #[] ?_) | go_at_call 44); (with_reducible refine (apogeelaw12_awake.calls k  false _ A5.out).mono ?_); rintro e wz0 ⟨rfl, hb⟩; (first | refine ⟨_, rfl, ?_⟩ | skip); replace BK578 := bA (bB BK578 hb); replace HB := bA (bS hb); (try clear hb)))
  ·go_meet
   case rel => exact ⟨_, (decide ((l1.length : Int) > 12)), bs, H', ⟨by first | omega | exact Nat.le_refl _⟩, ⟨by (with_reducible repeat (first | refine blk_drewN ?_ _ | refine blk_drew ?_ | refine blk_alloc ?_ _)); exact BK578.out⟩, ⟨bX⟩⟩
  go_meet
  case rel => exact ⟨_, (true), bs, H', ⟨by first | omega | exact Nat.le_refl _⟩, ⟨by (with_reducible repeat (first | refine blk_drewN ?_ _ | refine blk_drew ?_ | refine blk_alloc ?_ _)); exact BK578.out⟩, ⟨bX⟩⟩
 clear HC3
 try clear c1
 try clear p2
 try clear c4
 try clear c6
 obtain ⟨kq, x11_2, rfl, HA, HJ2, BK578, HB⟩ := hcut
 cases kq with
 | zero => exact absurd HA.out (by simp [apogeelaw12_BoxRelates.j0])
 | succ kj2 =>
  have H := HA.out
  clear HA
  simp only [apogeelaw12_BoxRelates.j0] at H
  by_cases c9 : x11_2 = true
  ·subst c9
   rw [if_pos rfl] at H
   replace H := Option.bind_eq_some_iff.mp H
   obtain ⟨t580, A100, H⟩ := H
   have A10 := bA A100
   clear A100
   obtain rfl := Option.some.inj H
   go_wp2_with (first | ((first | ((with_reducible refine gate_callee (f := 44) rfl ?_); refine bC (some 12) Try.func44 #[] ?_) | go_at_call 44); (with_reducible refine (apogeelaw12_awake.calls kj2  t580 _ A10.out).mono ?_); rintro e w11 ⟨rfl, hb⟩; (first | refine ⟨_, rfl, ?_⟩ | skip); replace BK578 := bA (bB BK578 hb); replace HB := bA (bS hb); (try clear hb)))
   go_ret
   exact bF
  replace c9 := Bool.eq_false_iff.mpr c9
  subst c9
  rw [if_neg bn] at H
  replace H := Option.bind_eq_some_iff.mp H
  obtain ⟨t581, A120, H⟩ := H
  have A12 := bA A120
  clear A120
  replace H := Option.bind_eq_some_iff.mp H
  obtain ⟨t582, A130, H⟩ := H
  have A13 := bA A130
  clear A130
  obtain rfl := Option.some.inj H
  try go_wp2
  replace BK578 := bA (blk_drew BK578.out)
  replace HB := bA (below_drew1 HB.out)
  refine start_ (n := 8) (S := fun w' => w'.cell? ⟨gb578, 0, none⟩ = some (.int .i64 a0_0) ∧ w'.cell? ⟨gb578, 1, none⟩ = some (.int .i64 a0_1) ∧ w'.cell? ⟨gb578, 2, none⟩ = some (.int .i64 a0_2) ∧ w'.cell? ⟨gb578, 3, none⟩ = some (.int .i64 a0_3)) (ds := []) #[false,false,false,false,false,false,false,false] (by kernel_rfl) rfl rfl ⟨bq BK578 0, bq BK578 1, bq BK578 2, bq BK578 3⟩ (fun hHeld => ?_); refine with_tabW apogeelaw12_BoxRelates.tab3 apogeelaw12_BoxRelates.bits3 (fun HT_ HW_ => ?_)
  generalize wc.drew = w14 at BK578 HB hHeld ⊢
  refine bU (i := 1) (N := some 14) ?_
  refine bU (i := 4) (N := some 17) ?_
  refine bW (i := 0) (N := some 13) hHeld ?_
  refine bW (i := 3) (N := some 16) hHeld ?_
  refine one_ (i := 2) (N := some 15) #[true,true,true,true,true,false,false,false] rfl rfl (one_of HT_.out (by kernel_rfl)) (by decide) (fun K hK => ?_)
  refine goes_ Try.func47 (by kernel_rfl) rfl #[.agg #[.int .i64 a0_0, .int .i64 a0_1, .int .i64 a0_2, .int .i64 a0_3], .slice A1 l1.length c1] (by rfl) rfl rfl (by (try simp only [List.map_toArray, List.map_cons, List.map_nil]); first | done | rfl | (simp only [List.length_drop, List.length_take]; rfl)) ?_
  with_reducible refine (box_Relate.calls kj2 a0_0 a0_1 a0_2 a0_3 _ _ l1 t581 _ ?side1 ?side2 A12.out).mono ?_
  (case side1 => exact bQ HR1)
  (case side2 => exact HC1.out)
  rintro e w15 ⟨rfl, hb⟩
  refine ⟨_, rfl, ?_⟩
  replace BK578 := bA (bB BK578 hb)
  replace HB := bA (bS hb)
  (try clear hb)
  refine hK.out _ _ ⟨bq BK578 0, bq BK578 1, bq BK578 2, bq BK578 3⟩ (fun hHeld => ?_)
  clear hK K
  refine bH ?_
  refine one_ (i := 5) (N := some 18) #[true,true,true,true,true,true,false,false] rfl rfl (one_of HT_.out (by kernel_rfl)) (by decide) (fun K hK => ?_)
  refine goes_ Try.func48 (by kernel_rfl) rfl #[.agg #[.int .i64 a0_0, .int .i64 a0_1, .int .i64 a0_2, .int .i64 a0_3], .slice A1 l1.length c1] (by rfl) rfl rfl (by (try simp only [List.map_toArray, List.map_cons, List.map_nil]); first | done | rfl | (simp only [List.length_drop, List.length_take]; rfl)) ?_
  with_reducible refine (apogeeref12_Relate.calls kj2 a0_0 a0_1 a0_2 a0_3 _ _ l1 t582 _ ?side1 ?side2 A13.out).mono ?_
  (case side1 => exact bQ HR1)
  (case side2 => exact HC1.out)
  rintro e w16 ⟨rfl, hb⟩
  refine ⟨_, rfl, ?_⟩
  replace BK578 := bA (bB BK578 hb)
  replace HB := bA (bS hb)
  (try clear hb)
  refine hK.out _ _ ⟨bq BK578 0, bq BK578 1, bq BK578 2, bq BK578 3⟩ (fun hHeld => ?_)
  clear hK K
  refine bH ?_
  refine bU (i := 6) (N := some 19) ?_
  refine bU (i := 7) (N := some 4) ?_
  refine done_ (done_of HT_.out (by kernel_rfl)) ?_
  try go_wp2
  go_ret
  exact bF
end Go.Proofs.Ytjmibjmlihmglaa.G
