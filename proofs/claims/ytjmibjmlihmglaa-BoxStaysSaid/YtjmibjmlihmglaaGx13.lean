-- Written by a program of this session out of the translation; Lean checks it.
import Derived.Test.YtjmibjmlihmglaaGx0
import Derived.Test.YtjmibjmlihmglaaGx5
import Derived.Test.YtjmibjmlihmglaaGx7
import Derived.Test.YtjmibjmlihmglaaGx12
namespace Go.Proofs.Ytjmibjmlihmglaa.G
open Go.RowKit Go.Proofs.YtjmibjmlihmglaaW.PrintWords Go.Proofs.YtjmibjmlihmglaaW.PrintLast Go.Proofs.YtjmibjmlihmglaaW.PrintMore
attribute [local go_sem] max2_int min2_int max_two min_two max_three min_three max_four min_four   -- for this text's walks alone
set_option linter.unusedVariables false
set_option linter.unusedSimpArgs false

/-! ### box_Relate: function 47 -/
mutual
def box_Relate.j0 : Nat → List (S41) → Bool → Int → Int → Int → Int → Option (Int)
 | 0, _, _, _, _, _, _ => none
 | k + 1, x1, x14, x289000, x289001, x289002, x289003 => if x14 = true then (some (-1)) else (box_Relate.l0 k x1 x1 (x1.length : Int) 0 x289000 x289001 x289002 x289003)
def box_Relate.l0 : Nat → List (S41) → List (S41) → Int → Int → Int → Int → Int → Int → Option (Int)
 | 0, _, _, _, _, _, _, _, _ => none
 | k + 1, x1, x15, x16, x17, x289000, x289001, x289002, x289003 => if x17 < x16 then (if 0 ≤ x17 then (if x17 < (x15.length : Int) then (if (x1.length : Int) = 0 then (none) else (if 0 ≤ (Int.tmod (wrap64 (x17 + 1)) (x1.length : Int)) then (if (Int.tmod (wrap64 (x17 + 1)) (x1.length : Int)) < (x1.length : Int) then ((box_Meets.f k x289000 x289001 x289002 x289003 ((rd_T41 x15 x17).f0) ((rd_T41 x15 x17).f1) ((rd_T41 x1 (Int.tmod (wrap64 (x17 + 1)) (x1.length : Int))).f0) ((rd_T41 x1 (Int.tmod (wrap64 (x17 + 1)) (x1.length : Int))).f1)).bind fun t294 => (if t294 = true then (some 0) else (box_Relate.l0 k x1 x15 x16 (wrap64 (x17 + 1)) x289000 x289001 x289002 x289003))) else (none)) else (none))) else (none)) else (none)) else ((poly_Side.f k x1 x289000 x289001).bind fun t295 => (some t295))
end
def box_Relate.f (k : Nat) (a0_0 : Int) (a0_1 : Int) (a0_2 : Int) (a0_3 : Int) (l1 : List (S41)) : Option (Int) := (box_Right.f a0_0 a0_1 a0_2 a0_3).bind fun t289 => (if t289 = true then ((poly_Right.f k l1).bind fun t290 => (box_Relate.j0 k l1 (!t290) a0_0 a0_1 a0_2 a0_3)) else (box_Relate.j0 k l1 true a0_0 a0_1 a0_2 a0_3))
theorem box_Relate.mono_l : ∀ k, (∀ y0 y1 y2 y3 y4 y5, LeO (box_Relate.j0 k y0 y1 y2 y3 y4 y5) (box_Relate.j0 (k + 1) y0 y1 y2 y3 y4 y5)) ∧ (∀ y0 y1 y2 y3 y4 y5 y6 y7, LeO (box_Relate.l0 k y0 y1 y2 y3 y4 y5 y6 y7) (box_Relate.l0 (k + 1) y0 y1 y2 y3 y4 y5 y6 y7))
 | 0 => ⟨fun _ _ _ _ _ _ r h => by simp [box_Relate.j0] at h, fun _ _ _ _ _ _ _ _ r h => by simp [box_Relate.l0] at h⟩
 | k + 1 => by
  obtain ⟨ih0, ih1⟩ := box_Relate.mono_l k
  refine ⟨?_, ?_⟩
  ·intro y0 y1 y2 y3 y4 y5
   unfold box_Relate.j0
   repeat' first
   | (with_reducible exact ih0 _ _ _ _ _ _)
   | (with_reducible exact ih1 _ _ _ _ _ _ _ _)
   | (with_reducible exact box_Meets.mono _ _ _ _ _ _ _ _ _)
   | (with_reducible exact poly_Right.mono _ _)
   | (with_reducible exact poly_Side.mono _ _ _ _)
   | (with_reducible exact LeO.refl _)
   | (with_reducible exact LeO.none _)
   | (with_reducible refine LeO.ite ?_ ?_)
   | (with_reducible refine LeO.bind ?_ (fun _ => ?_))
   | exact ih0 _ _ _ _ _ _
   | exact ih1 _ _ _ _ _ _ _ _
   | exact box_Meets.mono _ _ _ _ _ _ _ _ _
   | exact poly_Right.mono _ _
   | exact poly_Side.mono _ _ _ _
   | exact LeO.none _
   | refine LeO.ite ?_ ?_
   | refine LeO.bind ?_ (fun _ => ?_)
  ·intro y0 y1 y2 y3 y4 y5 y6 y7
   unfold box_Relate.l0
   repeat' first
   | (with_reducible exact ih0 _ _ _ _ _ _)
   | (with_reducible exact ih1 _ _ _ _ _ _ _ _)
   | (with_reducible exact box_Meets.mono _ _ _ _ _ _ _ _ _)
   | (with_reducible exact poly_Right.mono _ _)
   | (with_reducible exact poly_Side.mono _ _ _ _)
   | (with_reducible exact LeO.refl _)
   | (with_reducible exact LeO.none _)
   | (with_reducible refine LeO.ite ?_ ?_)
   | (with_reducible refine LeO.bind ?_ (fun _ => ?_))
   | exact ih0 _ _ _ _ _ _
   | exact ih1 _ _ _ _ _ _ _ _
   | exact box_Meets.mono _ _ _ _ _ _ _ _ _
   | exact poly_Right.mono _ _
   | exact poly_Side.mono _ _ _ _
   | exact LeO.none _
   | refine LeO.ite ?_ ?_
   | refine LeO.bind ?_ (fun _ => ?_)
theorem box_Relate.mono : ∀ a0 a1 a2 a3 a4 k, LeO (box_Relate.f k a0 a1 a2 a3 a4) (box_Relate.f (k + 1) a0 a1 a2 a3 a4) := by
 intro a0 a1 a2 a3 a4 k
 obtain ⟨ih0, ih1⟩ := box_Relate.mono_l k
 unfold box_Relate.f
 repeat' first
   | (with_reducible exact ih0 _ _ _ _ _ _)
   | (with_reducible exact ih1 _ _ _ _ _ _ _ _)
   | (with_reducible exact box_Meets.mono _ _ _ _ _ _ _ _ _)
   | (with_reducible exact poly_Right.mono _ _)
   | (with_reducible exact poly_Side.mono _ _ _ _)
   | (with_reducible exact LeO.refl _)
   | (with_reducible exact LeO.none _)
   | (with_reducible refine LeO.ite ?_ ?_)
   | (with_reducible refine LeO.bind ?_ (fun _ => ?_))
   | exact ih0 _ _ _ _ _ _
   | exact ih1 _ _ _ _ _ _ _ _
   | exact box_Meets.mono _ _ _ _ _ _ _ _ _
   | exact poly_Right.mono _ _
   | exact poly_Side.mono _ _ _ _
   | exact LeO.none _
   | refine LeO.ite ?_ ?_
   | refine LeO.bind ?_ (fun _ => ?_)
def box_Relate.T6 : Bool × List (List Nat × List Nat) := (true, [([], []), ([], []), ([], []), ([], []), ([3], [3]), ([], []), ([5], [5]), ([4, 6], [4, 6]), ([2, 7], [2, 7]), ([8], [8]), ([0, 1, 9], [0, 1, 9])])
def box_Relate.B6 : List Nat := [0, 0, 0, 0, 8, 0, 32, 120, 252, 508, 1023]
theorem box_Relate.tab6 : rtab .any (opsOf Try.f47 6) = box_Relate.T6 := by kernel_rfl
theorem box_Relate.bits6 : waitsOk box_Relate.T6.2 box_Relate.B6 = true := by kernel_rfl
set_option maxHeartbeats 8000000 in
set_option maxRecDepth 100000 in
theorem box_Relate.calls (k : Nat) (a0_0 : Int) (a0_1 : Int) (a0_2 : Int) (a0_3 : Int) (A1 : Option Addr) (c1 : Nat) (l1 : List (S41)) (r : Int) (w : World) (hr1 : Kd.C k41 w A1 l1.length l1) (hc1 : l1.length ≤ c1) (h : box_Relate.f k a0_0 a0_1 a0_2 a0_3 l1 = some r) :
  Calls Try.prog 47 #[.agg #[.int .i64 a0_0, .int .i64 a0_1, .int .i64 a0_2, .int .i64 a0_3], .slice A1 l1.length c1] w fun e w' => e = .returned (.int .i64 r) ∧ Below w.heap.size w w' := by
 have hu44 := Try.underlying44
 have hu41 := Try.underlying41
 have HR1 := bA hr1
 have HC1 := bA hc1
 clear hr1 hc1
 have HB := bA (Below.refl w.heap.size w)
 have H : ((box_Right.f a0_0 a0_1 a0_2 a0_3).bind fun t289 => (if t289 = true then ((poly_Right.f k l1).bind fun t290 => (box_Relate.j0 k l1 (!t290) a0_0 a0_1 a0_2 a0_3)) else (box_Relate.j0 k l1 true a0_0 a0_1 a0_2 a0_3))) = some r := h
 clear h
 have HC3 := bA H
 clear H
 go_enter Try.func47, Try.ntmps47
 go_upto_region 1 with (first | ((with_reducible refine gate_dst (N := 2) rfl ?_); refine bE (N := 2) (cs := #[.int .i64 a0_0, .int .i64 a0_1, .int .i64 a0_2, .int .i64 a0_3]) (t := 44) ?_; intro gb288 hg w4 hbox hb; have n0_ := bA (bS hb); have n1_ := bA (hbox); have n2_ := bA (bZ hg); have n3_ := bA (bZ hg); clear HB; have HB := n0_; have BK288 := n1_; have GW288 := n2_; have GE288 := n3_; clear n0_ n1_ n2_ n3_; clear hb hbox hg))
 (try simp only [Act.put, List.setIfInBounds_toArray, List.set_cons_zero, List.set_cons_succ])
 go_cut [14] (fun v14 wc => ∃ (kq : Nat) (x14_2 : Bool), v14 = .bool x14_2 ∧ Aside0 (box_Relate.j0 kq l1 x14_2 a0_0 a0_1 a0_2 a0_3 = some r) ∧ Aside0 (kq ≤ k) ∧ Aside0 (wc.heap[gb288]? = some (.cells #[.int .i64 a0_0, .int .i64 a0_1, .int .i64 a0_2, .int .i64 a0_3] 44 (0, 0))) ∧ Aside0 (Below w.heap.size w wc))
 case first =>
  have H := HC3.out
  clear HC3
  replace H := Option.bind_eq_some_iff.mp H
  obtain ⟨t289, A50, H⟩ := H
  have A5 := bA A50
  clear A50
  by_cases c6 : t289 = true
  subst c6
  rw [if_pos rfl] at H
  replace H := Option.bind_eq_some_iff.mp H
  obtain ⟨t290, A70, H⟩ := H
  have A7 := bA A70
  clear A70
  have H' := bA H
  clear H
  obtain ⟨hcz8_0, hcz8_1, hcz8_2, hcz8_3, hfz8_0, hfz8_1, hfz8_2, hfz8_3⟩ := bc4 BK288
  rotate_left
  replace c6 := Bool.eq_false_iff.mpr c6
  subst c6
  rw [if_neg bn] at H
  have H' := bA H
  clear H
  obtain ⟨hcz11_0, hcz11_1, hcz11_2, hcz11_3, hfz11_0, hfz11_1, hfz11_2, hfz11_3⟩ := bc4 BK288
  rotate_left
  all_goals go_wp2_with (first | ((first | ((with_reducible refine gate_callee (f := 87) rfl ?_); refine bC (some 8) Try.func87 #[.agg #[.int .i64 a0_0, .int .i64 a0_1, .int .i64 a0_2, .int .i64 a0_3]] ?_) | go_at_call 87); (with_reducible refine (box_Right.calls a0_0 a0_1 a0_2 a0_3 true _ A5.out).mono ?_); rintro e wz0 ⟨rfl, hb⟩; (first | refine ⟨_, rfl, ?_⟩ | skip); replace BK288 := bA (bB BK288 hb); replace HB := bA (bS hb); (try clear hb)) | (go_at_call 31; (with_reducible refine (poly_Right.calls k _ _ l1 t290 _ ?side1 ?side2 A7.out).mono ?_); (case side1 => exact bQ HR1); (case side2 => exact HC1.out); rintro e wz1 ⟨rfl, hb⟩; replace BK288 := bA (bB BK288 hb); replace HB := bA (bS hb); (try clear hb)) | ((first | ((with_reducible refine gate_callee (f := 87) rfl ?_); refine bC (some 8) Try.func87 #[.agg #[.int .i64 a0_0, .int .i64 a0_1, .int .i64 a0_2, .int .i64 a0_3]] ?_) | go_at_call 87); (with_reducible refine (box_Right.calls a0_0 a0_1 a0_2 a0_3 false _ A5.out).mono ?_); rintro e wz0 ⟨rfl, hb⟩; (first | refine ⟨_, rfl, ?_⟩ | skip); replace BK288 := bA (bB BK288 hb); replace HB := bA (bS hb); (try clear hb)))
  ·go_meet
   case rel => exact ⟨_, (!t290), bs, H', ⟨by first | omega | exact Nat.le_refl _⟩, ⟨by (with_reducible repeat (first | refine blk_drewN ?_ _ | refine blk_drew ?_ | refine blk_alloc ?_ _)); exact BK288.out⟩, ⟨bX⟩⟩
  go_meet
  case rel => exact ⟨_, (true), bs, H', ⟨by first | omega | exact Nat.le_refl _⟩, ⟨by (with_reducible repeat (first | refine blk_drewN ?_ _ | refine blk_drew ?_ | refine blk_alloc ?_ _)); exact BK288.out⟩, ⟨bX⟩⟩
 clear HC3
 try clear c1
 try clear p2
 try clear c4
 try clear c6
 try clear c8
 try clear hcz11_0
 try clear hcz11_1
 try clear hcz11_2
 try clear hcz11_3
 try clear hcz8_0
 try clear hcz8_1
 try clear hcz8_2
 try clear hcz8_3
 try clear hfz11_0
 try clear hfz11_1
 try clear hfz11_2
 try clear hfz11_3
 try clear hfz8_0
 try clear hfz8_1
 try clear hfz8_2
 try clear hfz8_3
 obtain ⟨kq, x14_2, rfl, HA, HJ2, BK288, HB⟩ := hcut
 cases kq with
 | zero => exact absurd HA.out (by simp [box_Relate.j0])
 | succ kj2 =>
  have H := HA.out
  clear HA
  simp only [box_Relate.j0] at H
  by_cases c13 : x14_2 = true
  ·subst c13
   rw [if_pos rfl] at H
   obtain rfl := Option.some.inj H
   go_wp2
   go_ret
   exact bF
  replace c13 := Bool.eq_false_iff.mpr c13
  subst c13
  rw [if_neg bn] at H
  have H' := bA H
  clear H
  go_wp2
  go_loopg [17] kj2 (fun kq v17 w' => ∃ (x17_2 : Int), v17 = .int .i64 x17_2 ∧ Aside0 (box_Relate.l0 kq l1 l1 (l1.length : Int) x17_2 a0_0 a0_1 a0_2 a0_3 = some r) ∧ Aside0 (kq ≤ kj2) ∧ Aside0 (w'.heap[gb288]? = some (.cells #[.int .i64 a0_0, .int .i64 a0_1, .int .i64 a0_2, .int .i64 a0_3] 44 (0, 0))) ∧ Aside0 (Below w.heap.size w w'))
  case atStart => exact ⟨(0), bs, H', ⟨Nat.le_refl _⟩, ⟨by (with_reducible repeat (first | refine blk_drewN ?_ _ | refine blk_drew ?_ | refine blk_alloc ?_ _)); exact BK288.out⟩, ⟨bX⟩⟩
  clear H'
  try clear c1
  try clear p2
  try clear c4
  try clear c6
  try clear c8
  try clear c13
  try clear hcz11_0
  try clear hcz11_1
  try clear hcz11_2
  try clear hcz11_3
  try clear hcz8_0
  try clear hcz8_1
  try clear hcz8_2
  try clear hcz8_3
  try clear hfz11_0
  try clear hfz11_1
  try clear hfz11_2
  try clear hfz11_3
  try clear hfz8_0
  try clear hfz8_1
  try clear hfz8_2
  try clear hfz8_3
  try clear p2
  obtain ⟨x17_2, rfl, HA, HK2, BK288, HB⟩ := hrel
  cases gk with
  | zero => exact absurd HA.out (by simp [box_Relate.l0])
  | succ k2 =>
   have H := HA.out
   clear HA
   simp only [box_Relate.l0] at H
   by_cases c14 : x17_2 < (l1.length : Int)
   rotate_left
   ·rw [if_neg c14] at H
    have c14b0 : decide (x17_2 < (l1.length : Int)) = false := decide_eq_false c14
    clear c14
    replace H := Option.bind_eq_some_iff.mp H
    obtain ⟨t295, A350, H⟩ := H
    have A35 := bA A350
    clear A350
    obtain rfl := Option.some.inj H
    obtain ⟨hcz36_0, hcz36_1, hcz36_2, hcz36_3, hfz36_0, hfz36_1, hfz36_2, hfz36_3⟩ := bc4 BK288
    go_wp2_with (first | ((first | ((with_reducible refine gate_callee (f := 32) rfl ?_); refine bC (some 37) Try.func32 #[.slice A1 l1.length c1, .agg #[.int .i64 a0_0, .int .i64 a0_1]] ?_) | go_at_call 32); (with_reducible refine (poly_Side.calls k2 _ _ l1 a0_0 a0_1 t295 _ ?side1 ?side2 A35.out).mono ?_); (case side1 => exact bQ HR1); (case side2 => exact HC1.out); rintro e w37 ⟨rfl, hb⟩; (first | refine ⟨_, rfl, ?_⟩ | skip); replace BK288 := bA (bB BK288 hb); replace HB := bA (bS hb); (try clear hb)))
    go_ret
    exact bF
   rw [if_pos c14] at H
   have c14b0 : decide (x17_2 < (l1.length : Int)) = true := decide_eq_true c14
   clear c14
   by_cases c15 : 0 ≤ x17_2
   rotate_left
   ·rw [if_neg c15] at H
    exact absurd H (by simp)
   rw [if_pos c15] at H
   have c15b0 : decide (0 ≤ x17_2) = true := decide_eq_true c15
   clear c15
   by_cases c16 : x17_2 < (l1.length : Int)
   rotate_left
   ·rw [if_neg c16] at H
    exact absurd H (by simp)
   rw [if_pos c16] at H
   have c16b0 : decide (x17_2 < (l1.length : Int)) = true := decide_eq_true c16
   clear c16
   by_cases c17 : (l1.length : Int) = 0
   ·rw [if_pos c17] at H
    exact absurd H (by simp)
   rw [if_neg c17] at H
   have c17b0 : ((l1.length : Int) == 0) = false := beq_eq_false_iff_ne.mpr c17
   have c17b1 : ((l1.length : Int) != 0) = true := bne_iff_ne.mpr c17
   have c17b2 : ¬ (l1 = []) := fun h_ => c17 (by rw [h_]; rfl)
   obtain ⟨ji18, hji18⟩ : ∃ j_ : Int, (Int.tmod (wrap64 (x17_2 + 1)) (l1.length : Int)) = j_ := ⟨_, rfl⟩
   replace H : (if 0 ≤ (ji18) then (if (ji18) < (l1.length : Int) then ((box_Meets.f k2 a0_0 a0_1 a0_2 a0_3 ((rd_T41 l1 x17_2).f0) ((rd_T41 l1 x17_2).f1) ((rd_T41 l1 (ji18)).f0) ((rd_T41 l1 (ji18)).f1)).bind fun t294 => (if t294 = true then (some 0) else (box_Relate.l0 k2 l1 l1 (l1.length : Int) (wrap64 (x17_2 + 1)) a0_0 a0_1 a0_2 a0_3))) else (none)) else (none)) = some r := by first | (rw [hji18] at H; exact H) | (simp only [hji18] at H ⊢; exact H)
   by_cases c19 : 0 ≤ (ji18)
   rotate_left
   ·rw [if_neg c19] at H
    exact absurd H (by simp)
   rw [if_pos c19] at H
   have c19b0 : decide (0 ≤ (ji18)) = true := decide_eq_true c19
   clear c19
   by_cases c20 : (ji18) < (l1.length : Int)
   rotate_left
   ·rw [if_neg c20] at H
    exact absurd H (by simp)
   rw [if_pos c20] at H
   have c20b0 : decide ((ji18) < (l1.length : Int)) = true := decide_eq_true c20
   clear c20
   replace H := Option.bind_eq_some_iff.mp H
   obtain ⟨t294, A210, H⟩ := H
   have A21 := bA A210
   clear A210
   by_cases c22 : t294 = true
   ·subst c22
    rw [if_pos rfl] at H
    obtain rfl := Option.some.inj H
    have p291 : 0 ≤ (x17_2 : Int) := bo
    have q291 : x17_2 < (l1.length : Int) := bo
    obtain ⟨ad291, e291, hx291_0, hx291_1⟩ := at_T41 HR1.out x17_2 p291 q291
    cases e291
    replace hx291_0 := bK hx291_0
    replace hx291_1 := bK hx291_1
    replace p291 := eq_true p291
    replace q291 := eq_true q291
    try go_wp2_with (first | ((with_reducible refine gate_dst (N := 6) rfl ?_); refine bE (N := 6) (cs := #[.int .i64 0, .int .i64 0]) (t := 41) ?_; intro gb292 hg w23 hbox hb; have BK292 := bA (hbox); have GW292 := bA (bZ hg); have GE292 := bA (bZ hg); have NB288_292 := bA (bL BK288 hg); have NB292_288 := bA (bG BK288 hg); replace BK288 := bA (bB BK288 hb); replace HB := bA (bS hb); clear hb hbox hg; have hnb24 := NB292_288.out; have hnc24 := NB288_292.out; obtain ⟨hcz25_0, hcz25_1, hfz25_0, hfz25_1⟩ := bc2 BK292))
    have n0_ : Aside0 (((w23.setCell ⟨gb292, 0, none⟩ (.int .i64 ((rd_T41 l1 x17_2).f0))).setCell ⟨gb292, 1, none⟩ (.int .i64 ((rd_T41 l1 x17_2).f1))).heap[gb288]? = some (.cells #[.int .i64 a0_0, .int .i64 a0_1, .int .i64 a0_2, .int .i64 a0_3] 44 (0, 0))) := ⟨by (repeat ((with_reducible repeat (first | refine blk_drewN ?_ _ | refine blk_drew ?_ | refine blk_alloc ?_ _)); refine blk_far ?_ NB288_292.out _)); (with_reducible repeat (first | refine blk_drewN ?_ _ | refine blk_drew ?_ | refine blk_alloc ?_ _)); exact BK288.out⟩
    have n1_ : Aside0 (((w23.setCell ⟨gb292, 0, none⟩ (.int .i64 ((rd_T41 l1 x17_2).f0))).setCell ⟨gb292, 1, none⟩ (.int .i64 ((rd_T41 l1 x17_2).f1))).heap[gb292]? = some (.cells #[.int .i64 ((rd_T41 l1 x17_2).f0), .int .i64 ((rd_T41 l1 x17_2).f1)] 41 (0, 0))) := ⟨by (with_reducible repeat (first | refine blk_drewN ?_ _ | refine blk_drew ?_ | refine blk_alloc ?_ _)); refine blk_put (cs := #[.int .i64 ((rd_T41 l1 x17_2).f0), .int .i64 0]) ?_ 1 _ rfl; (with_reducible repeat (first | refine blk_drewN ?_ _ | refine blk_drew ?_ | refine blk_alloc ?_ _)); refine blk_put (cs := #[.int .i64 0, .int .i64 0]) ?_ 0 _ rfl; (with_reducible repeat (first | refine blk_drewN ?_ _ | refine blk_drew ?_ | refine blk_alloc ?_ _)); exact BK292.out⟩
    have n2_ : Aside0 (Below w.heap.size w ((w23.setCell ⟨gb292, 0, none⟩ (.int .i64 ((rd_T41 l1 x17_2).f0))).setCell ⟨gb292, 1, none⟩ (.int .i64 ((rd_T41 l1 x17_2).f1)))) := ⟨bX⟩
    (try clear BK288)
    (try clear BK292)
    (try clear HB)
    generalize ((w23.setCell ⟨gb292, 0, none⟩ (.int .i64 ((rd_T41 l1 x17_2).f0))).setCell ⟨gb292, 1, none⟩ (.int .i64 ((rd_T41 l1 x17_2).f1))) = w26 at n0_ n1_ n2_ ⊢
    have BK288 := n0_
    have BK292 := n1_
    have HB := n2_
    clear n0_ n1_ n2_
    replace BK288 := bA (blk_drew BK288.out)
    replace BK292 := bA (blk_drew BK292.out)
    replace HB := bA (below_drew1 HB.out)
    have p293 : 0 ≤ ((ji18) : Int) := bo
    have q293 : (ji18) < (l1.length : Int) := bo
    obtain ⟨ad293, e293, hx293_0, hx293_1⟩ := at_T41 HR1.out (ji18) p293 q293
    have hw293_1 := hx293_1
    have hw293_0 := hx293_0
    obtain rfl : ad291 = ad293 := (by injection e293)
    replace hx293_0 := bK hx293_0
    replace hx293_1 := bK hx293_1
    replace p293 := eq_true p293
    replace q293 := eq_true q293
    refine start_ (n := 11) (S := fun w' => w'.cell? ⟨gb288, 0, none⟩ = some (.int .i64 a0_0) ∧ w'.cell? ⟨gb288, 1, none⟩ = some (.int .i64 a0_1) ∧ w'.cell? ⟨gb288, 2, none⟩ = some (.int .i64 a0_2) ∧ w'.cell? ⟨gb288, 3, none⟩ = some (.int .i64 a0_3) ∧ w'.cell? ⟨gb292, 0, none⟩ = some (.int .i64 ((rd_T41 l1 x17_2).f0)) ∧ w'.cell? ⟨gb292, 1, none⟩ = some (.int .i64 ((rd_T41 l1 x17_2).f1)) ∧ w'.cell? (ad291.add (((ji18)).toNat * 2)) = some (.int .i64 ((rd_T41 l1 (ji18)).f0)) ∧ w'.cell? ⟨(ad291.add (((ji18)).toNat * 2)).block, (ad291.add (((ji18)).toNat * 2)).off + 1, none⟩ = some (.int .i64 ((rd_T41 l1 (ji18)).f1))) (ds := []) #[false,false,false,false,false,false,false,false,false,false,false] (by kernel_rfl) rfl rfl ⟨bq BK288 0, bq BK288 1, bq BK288 2, bq BK288 3, bq BK292 0, bq BK292 1, (bK hw293_0), (bK hw293_1)⟩ (fun hHeld => ?_); refine with_tabW box_Relate.tab6 box_Relate.bits6 (fun HT_ HW_ => ?_)
    generalize w26.drew = w27 at BK288 BK292 HB hx293_0 hx293_1 hHeld ⊢
    refine bU (i := 2) (N := some 24) ?_
    refine bU (i := 3) (N := some 25) ?_
    refine bU (i := 4) (N := some 26) ?_
    refine bU (i := 5) (N := some 27) ?_
    refine bU (i := 6) (N := some 28) ?_
    refine bU (i := 7) (N := some 29) ?_
    refine bU (i := 8) (N := some 30) ?_
    refine bW (i := 0) (N := some 22) hHeld ?_
    refine bW (i := 1) (N := some 23) hHeld ?_
    refine bW (i := 9) (N := some 31) hHeld ?_
    refine one_ (i := 10) (N := some 32) #[true,true,true,true,true,true,true,true,true,true,true] rfl rfl (one_of HT_.out (by kernel_rfl)) (by decide) (fun K hK => ?_)
    refine goes_ Try.func43 (by kernel_rfl) rfl #[.agg #[.int .i64 a0_0, .int .i64 a0_1, .int .i64 a0_2, .int .i64 a0_3], .agg #[.int .i64 ((rd_T41 l1 x17_2).f0), .int .i64 ((rd_T41 l1 x17_2).f1)], .agg #[.int .i64 ((rd_T41 l1 (ji18)).f0), .int .i64 ((rd_T41 l1 (ji18)).f1)]] (by rfl) rfl rfl (by (try simp only [List.map_toArray, List.map_cons, List.map_nil]); first | done | (simp only [hji18]; rfl) | rfl | (simp only [List.length_drop, List.length_take]; rfl)) ?_
    with_reducible refine (box_Meets.calls k2 a0_0 a0_1 a0_2 a0_3 ((rd_T41 l1 x17_2).f0) ((rd_T41 l1 x17_2).f1) ((rd_T41 l1 (ji18)).f0) ((rd_T41 l1 (ji18)).f1) true _ A21.out).mono ?_
    rintro e w28 ⟨rfl, hb⟩
    refine ⟨_, rfl, ?_⟩
    replace BK288 := bA (bB BK288 hb)
    replace BK292 := bA (bB BK292 hb)
    replace HB := bA (bS hb)
    (try clear hb)
    refine hK.out _ _ ⟨bq BK288 0, bq BK288 1, bq BK288 2, bq BK288 3, bq BK292 0, bq BK292 1, (bK hw293_0), (bK hw293_1)⟩ (fun hHeld => ?_)
    clear hK K
    refine bH ?_
    refine done_ (done_of HT_.out (by kernel_rfl)) ?_
    try go_wp2
    go_ret
    exact ⟨by first | rfl | (simp [errW_none, errW_some] <;> rfl) | (simp only [← hji18]; first | rfl | (simp [errW_none, errW_some] <;> rfl)) | (simp [*, errW_none, errW_some] <;> rfl), by repeat (first | (with_reducible first | exact HB.out | apply below_alloc | apply pw_below_drewN | apply below_drew1 | refine below_set ?_ GE288.out | refine below_set ?_ GE292.out) | exact HB.out)⟩
   replace c22 := Bool.eq_false_iff.mpr c22
   subst c22
   rw [if_neg bn] at H
   have H' := bA H
   clear H
   have p291 : 0 ≤ (x17_2 : Int) := bo
   have q291 : x17_2 < (l1.length : Int) := bo
   obtain ⟨ad291, e291, hx291_0, hx291_1⟩ := at_T41 HR1.out x17_2 p291 q291
   cases e291
   replace hx291_0 := bK hx291_0
   replace hx291_1 := bK hx291_1
   replace p291 := eq_true p291
   replace q291 := eq_true q291
   try go_wp2_with (first | ((with_reducible refine gate_dst (N := 6) rfl ?_); refine bE (N := 6) (cs := #[.int .i64 0, .int .i64 0]) (t := 41) ?_; intro gb292 hg w29 hbox hb; have BK292 := bA (hbox); have GW292 := bA (bZ hg); have GE292 := bA (bZ hg); have NB288_292 := bA (bL BK288 hg); have NB292_288 := bA (bG BK288 hg); replace BK288 := bA (bB BK288 hb); replace HB := bA (bS hb); clear hb hbox hg; have hnb30 := NB292_288.out; have hnc30 := NB288_292.out; obtain ⟨hcz31_0, hcz31_1, hfz31_0, hfz31_1⟩ := bc2 BK292))
   have n0_ : Aside0 (((w29.setCell ⟨gb292, 0, none⟩ (.int .i64 ((rd_T41 l1 x17_2).f0))).setCell ⟨gb292, 1, none⟩ (.int .i64 ((rd_T41 l1 x17_2).f1))).heap[gb288]? = some (.cells #[.int .i64 a0_0, .int .i64 a0_1, .int .i64 a0_2, .int .i64 a0_3] 44 (0, 0))) := ⟨by (repeat ((with_reducible repeat (first | refine blk_drewN ?_ _ | refine blk_drew ?_ | refine blk_alloc ?_ _)); refine blk_far ?_ NB288_292.out _)); (with_reducible repeat (first | refine blk_drewN ?_ _ | refine blk_drew ?_ | refine blk_alloc ?_ _)); exact BK288.out⟩
   have n1_ : Aside0 (((w29.setCell ⟨gb292, 0, none⟩ (.int .i64 ((rd_T41 l1 x17_2).f0))).setCell ⟨gb292, 1, none⟩ (.int .i64 ((rd_T41 l1 x17_2).f1))).heap[gb292]? = some (.cells #[.int .i64 ((rd_T41 l1 x17_2).f0), .int .i64 ((rd_T41 l1 x17_2).f1)] 41 (0, 0))) := ⟨by (with_reducible repeat (first | refine blk_drewN ?_ _ | refine blk_drew ?_ | refine blk_alloc ?_ _)); refine blk_put (cs := #[.int .i64 ((rd_T41 l1 x17_2).f0), .int .i64 0]) ?_ 1 _ rfl; (with_reducible repeat (first | refine blk_drewN ?_ _ | refine blk_drew ?_ | refine blk_alloc ?_ _)); refine blk_put (cs := #[.int .i64 0, .int .i64 0]) ?_ 0 _ rfl; (with_reducible repeat (first | refine blk_drewN ?_ _ | refine blk_drew ?_ | refine blk_alloc ?_ _)); exact BK292.out⟩
   have n2_ : Aside0 (Below w.heap.size w ((w29.setCell ⟨gb292, 0, none⟩ (.int .i64 ((rd_T41 l1 x17_2).f0))).setCell ⟨gb292, 1, none⟩ (.int .i64 ((rd_T41 l1 x17_2).f1)))) := ⟨bX⟩
   (try clear BK288)
   (try clear BK292)
   (try clear HB)
   generalize ((w29.setCell ⟨gb292, 0, none⟩ (.int .i64 ((rd_T41 l1 x17_2).f0))).setCell ⟨gb292, 1, none⟩ (.int .i64 ((rd_T41 l1 x17_2).f1))) = w32 at n0_ n1_ n2_ ⊢
   have BK288 := n0_
   have BK292 := n1_
   have HB := n2_
   clear n0_ n1_ n2_
   replace BK288 := bA (blk_drew BK288.out)
   replace BK292 := bA (blk_drew BK292.out)
   replace HB := bA (below_drew1 HB.out)
   have p293 : 0 ≤ ((ji18) : Int) := bo
   have q293 : (ji18) < (l1.length : Int) := bo
   obtain ⟨ad293, e293, hx293_0, hx293_1⟩ := at_T41 HR1.out (ji18) p293 q293
   have hw293_1 := hx293_1
   have hw293_0 := hx293_0
   obtain rfl : ad291 = ad293 := (by injection e293)
   replace hx293_0 := bK hx293_0
   replace hx293_1 := bK hx293_1
   replace p293 := eq_true p293
   replace q293 := eq_true q293
   refine start_ (n := 11) (S := fun w' => w'.cell? ⟨gb288, 0, none⟩ = some (.int .i64 a0_0) ∧ w'.cell? ⟨gb288, 1, none⟩ = some (.int .i64 a0_1) ∧ w'.cell? ⟨gb288, 2, none⟩ = some (.int .i64 a0_2) ∧ w'.cell? ⟨gb288, 3, none⟩ = some (.int .i64 a0_3) ∧ w'.cell? ⟨gb292, 0, none⟩ = some (.int .i64 ((rd_T41 l1 x17_2).f0)) ∧ w'.cell? ⟨gb292, 1, none⟩ = some (.int .i64 ((rd_T41 l1 x17_2).f1)) ∧ w'.cell? (ad291.add (((ji18)).toNat * 2)) = some (.int .i64 ((rd_T41 l1 (ji18)).f0)) ∧ w'.cell? ⟨(ad291.add (((ji18)).toNat * 2)).block, (ad291.add (((ji18)).toNat * 2)).off + 1, none⟩ = some (.int .i64 ((rd_T41 l1 (ji18)).f1))) (ds := []) #[false,false,false,false,false,false,false,false,false,false,false] (by kernel_rfl) rfl rfl ⟨bq BK288 0, bq BK288 1, bq BK288 2, bq BK288 3, bq BK292 0, bq BK292 1, (bK hw293_0), (bK hw293_1)⟩ (fun hHeld => ?_); refine with_tabW box_Relate.tab6 box_Relate.bits6 (fun HT_ HW_ => ?_)
   generalize w32.drew = w33 at BK288 BK292 HB hx293_0 hx293_1 hHeld ⊢
   refine bU (i := 2) (N := some 24) ?_
   refine bU (i := 3) (N := some 25) ?_
   refine bU (i := 4) (N := some 26) ?_
   refine bU (i := 5) (N := some 27) ?_
   refine bU (i := 6) (N := some 28) ?_
   refine bU (i := 7) (N := some 29) ?_
   refine bU (i := 8) (N := some 30) ?_
   refine bW (i := 0) (N := some 22) hHeld ?_
   refine bW (i := 1) (N := some 23) hHeld ?_
   refine bW (i := 9) (N := some 31) hHeld ?_
   refine one_ (i := 10) (N := some 32) #[true,true,true,true,true,true,true,true,true,true,true] rfl rfl (one_of HT_.out (by kernel_rfl)) (by decide) (fun K hK => ?_)
   refine goes_ Try.func43 (by kernel_rfl) rfl #[.agg #[.int .i64 a0_0, .int .i64 a0_1, .int .i64 a0_2, .int .i64 a0_3], .agg #[.int .i64 ((rd_T41 l1 x17_2).f0), .int .i64 ((rd_T41 l1 x17_2).f1)], .agg #[.int .i64 ((rd_T41 l1 (ji18)).f0), .int .i64 ((rd_T41 l1 (ji18)).f1)]] (by rfl) rfl rfl (by (try simp only [List.map_toArray, List.map_cons, List.map_nil]); first | done | (simp only [hji18]; rfl) | rfl | (simp only [List.length_drop, List.length_take]; rfl)) ?_
   with_reducible refine (box_Meets.calls k2 a0_0 a0_1 a0_2 a0_3 ((rd_T41 l1 x17_2).f0) ((rd_T41 l1 x17_2).f1) ((rd_T41 l1 (ji18)).f0) ((rd_T41 l1 (ji18)).f1) false _ A21.out).mono ?_
   rintro e w34 ⟨rfl, hb⟩
   refine ⟨_, rfl, ?_⟩
   replace BK288 := bA (bB BK288 hb)
   replace BK292 := bA (bB BK292 hb)
   replace HB := bA (bS hb)
   (try clear hb)
   refine hK.out _ _ ⟨bq BK288 0, bq BK288 1, bq BK288 2, bq BK288 3, bq BK292 0, bq BK292 1, (bK hw293_0), (bK hw293_1)⟩ (fun hHeld => ?_)
   clear hK K
   refine bH ?_
   refine done_ (done_of HT_.out (by kernel_rfl)) ?_
   try go_wp2
   go_roundg k2
   case measure => have := HJ2.out; have := HK2.out; omega
   case rel => exact ⟨(wrap64 (x17_2 + 1)), bs, H', ⟨by have := HJ2.out; have := HK2.out; omega⟩, ⟨by (with_reducible repeat (first | refine blk_drewN ?_ _ | refine blk_drew ?_ | refine blk_alloc ?_ _)); exact BK288.out⟩, ⟨bX⟩⟩
end Go.Proofs.Ytjmibjmlihmglaa.G
