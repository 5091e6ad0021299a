-- Written by a program of this session out of the translation; Lean checks it.
import Derived.Test.YtfeekdoakoabeaaGx0
import Derived.Test.YtfeekdoakoabeaaGx6
import Derived.Test.YtfeekdoakoabeaaGx7
import Derived.Test.YtfeekdoakoabeaaGx13
import Derived.Test.YtfeekdoakoabeaaGx14
namespace Go.Proofs.Ytfeekdoakoabeaa.G
open Go.RowKit Go.Proofs.YtfeekdoakoabeaaW.PrintWords Go.Proofs.YtfeekdoakoabeaaW.PrintLast Go.Proofs.YtfeekdoakoabeaaW.PrintMore
attribute [local go_sem] max2_int min2_int max_two min_two max_three min_three max_four min_four   -- for this text's walks alone
set_option linter.unusedVariables false
set_option linter.unusedSimpArgs false

/-! ### box_Relate: function 48 -/
mutual
def box_Relate.j0 : Nat → List (S28) → Bool → Int → Int → Int → Int → Option (Int)
 | 0, _, _, _, _, _, _ => none
 | k + 1, x1, x14, x341000, x341001, x341002, x341003 => if x14 = true then (some (-1)) else (box_Relate.l0 k x1 x1 (x1.length : Int) 0 x341000 x341001 x341002 x341003)
def box_Relate.l0 : Nat → List (S28) → List (S28) → Int → Int → Int → Int → Int → Int → Option (Int)
 | 0, _, _, _, _, _, _, _, _ => none
 | k + 1, x1, x15, x16, x17, x341000, x341001, x341002, x341003 => if x17 < x16 then (if 0 ≤ x17 then (if x17 < (x15.length : Int) then (if (x1.length : Int) = 0 then (none) else (if 0 ≤ (Int.tmod (wrap64 (x17 + 1)) (x1.length : Int)) then (if (Int.tmod (wrap64 (x17 + 1)) (x1.length : Int)) < (x1.length : Int) then ((box_Meets.f k x341000 x341001 x341002 x341003 ((rd_T28 x15 x17).f0) ((rd_T28 x15 x17).f1) ((rd_T28 x1 (Int.tmod (wrap64 (x17 + 1)) (x1.length : Int))).f0) ((rd_T28 x1 (Int.tmod (wrap64 (x17 + 1)) (x1.length : Int))).f1)).bind fun t346 => (if t346 = true then (some 0) else (box_Relate.l0 k x1 x15 x16 (wrap64 (x17 + 1)) x341000 x341001 x341002 x341003))) else (none)) else (none))) else (none)) else (none)) else ((poly_Side.f k x1 x341000 x341001).bind fun t347 => (some t347))
end
def box_Relate.f (k : Nat) (a0_0 : Int) (a0_1 : Int) (a0_2 : Int) (a0_3 : Int) (l1 : List (S28)) : Option (Int) := (box_Right.f a0_0 a0_1 a0_2 a0_3).bind fun t341 => (if t341 = true then ((poly_Right.f k l1).bind fun t342 => (box_Relate.j0 k l1 (!t342) a0_0 a0_1 a0_2 a0_3)) else (box_Relate.j0 k l1 true a0_0 a0_1 a0_2 a0_3))
theorem box_Relate.mono_l : ∀ k, (∀ y0 y1 y2 y3 y4 y5, LeO (box_Relate.j0 k y0 y1 y2 y3 y4 y5) (box_Relate.j0 (k + 1) y0 y1 y2 y3 y4 y5)) ∧ (∀ y0 y1 y2 y3 y4 y5 y6 y7, LeO (box_Relate.l0 k y0 y1 y2 y3 y4 y5 y6 y7) (box_Relate.l0 (k + 1) y0 y1 y2 y3 y4 y5 y6 y7))
 | 0 => ⟨fun _ _ _ _ _ _ r h => by simp [box_Relate.j0] at h, fun _ _ _ _ _ _ _ _ r h => by simp [box_Relate.l0] at h⟩
 | k + 1 => by
  obtain ⟨ih0, ih1⟩ := box_Relate.mono_l k
  refine ⟨?_, ?_⟩
  ·intro y0 y1 y2 y3 y4 y5
   unfold box_Relate.j0
   have m0_ := @box_Meets.mono
   have m1_ := @poly_Right.mono
   have m2_ := @poly_Side.mono
   exact bMo
  ·intro y0 y1 y2 y3 y4 y5 y6 y7
   unfold box_Relate.l0
   have m0_ := @box_Meets.mono
   have m1_ := @poly_Right.mono
   have m2_ := @poly_Side.mono
   exact bMo
theorem box_Relate.mono : ∀ a0 a1 a2 a3 a4 k, LeO (box_Relate.f k a0 a1 a2 a3 a4) (box_Relate.f (k + 1) a0 a1 a2 a3 a4) := by
 intro a0 a1 a2 a3 a4 k
 obtain ⟨ih0, ih1⟩ := box_Relate.mono_l k
 unfold box_Relate.f
 have m0_ := @box_Meets.mono
 have m1_ := @poly_Right.mono
 have m2_ := @poly_Side.mono
 exact bMo
def box_Relate.T6 : Bool × List (List Nat × List Nat) := (true, [([], []), ([], []), ([], []), ([], []), ([3], [3]), ([], []), ([5], [5]), ([4, 6], [4, 6]), ([2, 7], [2, 7]), ([8], [8]), ([0, 1, 9], [0, 1, 9])])
def box_Relate.B6 : List Nat := [0, 0, 0, 0, 8, 0, 32, 120, 252, 508, 1023]
theorem box_Relate.tab6 : rtab .any (opsOf Try.f48 6) = box_Relate.T6 := by kernel_rfl
theorem box_Relate.bits6 : waitsOk box_Relate.T6.2 box_Relate.B6 = true := by kernel_rfl
set_option maxHeartbeats 8000000 in
set_option maxRecDepth 100000 in
theorem box_Relate.calls (k : Nat) (a0_0 : Int) (a0_1 : Int) (a0_2 : Int) (a0_3 : Int) (A1 : Option Addr) (c1 : Nat) (l1 : List (S28)) (r : Int) (w : World) (hr1 : Kd.C k28 w A1 l1.length l1) (hc1 : l1.length ≤ c1) (h : box_Relate.f k a0_0 a0_1 a0_2 a0_3 l1 = some r) :
  Calls Try.prog 48 #[.agg #[.int .i64 a0_0, .int .i64 a0_1, .int .i64 a0_2, .int .i64 a0_3], .slice A1 l1.length c1] w fun e w' => e = .returned (.int .i64 r) ∧ Below w.heap.size w w' := by
 have hu30 := Try.underlying30
 have hu28 := Try.underlying28
 have HR1 := bA hr1
 have HC1 := bA hc1
 clear hr1 hc1
 have HB := bA (Below.refl w.heap.size w)
 have H : ((box_Right.f a0_0 a0_1 a0_2 a0_3).bind fun t341 => (if t341 = true then ((poly_Right.f k l1).bind fun t342 => (box_Relate.j0 k l1 (!t342) a0_0 a0_1 a0_2 a0_3)) else (box_Relate.j0 k l1 true a0_0 a0_1 a0_2 a0_3))) = some r := h
 clear h
 have HC3 := bA H
 clear H
 go_enter Try.func48, Try.ntmps48
 go_upto_region 1 with (first | ((with_reducible refine gate_dst (N := 2) rfl ?_); refine bE (N := 2) (cs := #[.int .i64 a0_0, .int .i64 a0_1, .int .i64 a0_2, .int .i64 a0_3]) (t := 30) ?_; intro gb340 hg w4 hbox hb; have n0_ := bA (bS hb); have n1_ := bA (hbox); have n2_ := bA (bZ hg); have n3_ := bA (bZ hg); clear HB; have HB := n0_; have BK340 := n1_; have GW340 := n2_; have GE340 := n3_; clear n0_ n1_ n2_ n3_; clear hb hbox hg))
 (try simp only [Act.put, List.setIfInBounds_toArray, List.set_cons_zero, List.set_cons_succ])
 go_cut [14] (fun v14 wc => ∃ (kq : Nat) (x14_2 : Bool), v14 = .bool x14_2 ∧ Aside0 (box_Relate.j0 kq l1 x14_2 a0_0 a0_1 a0_2 a0_3 = some r) ∧ Aside0 (kq ≤ k) ∧ Aside0 (wc.heap[gb340]? = some (.cells #[.int .i64 a0_0, .int .i64 a0_1, .int .i64 a0_2, .int .i64 a0_3] 30 (0, 0))) ∧ Aside0 (Below w.heap.size w wc))
 case first =>
  have H := HC3.out
  clear HC3
  replace H := Option.bind_eq_some_iff.mp H
  obtain ⟨t341, A50, H⟩ := H
  have A5 := bA A50
  clear A50
  by_cases c6 : t341 = true
  subst c6
  rw [if_pos rfl] at H
  replace H := Option.bind_eq_some_iff.mp H
  obtain ⟨t342, A70, H⟩ := H
  have A7 := bA A70
  clear A70
  have H' := bA H
  clear H
  obtain ⟨hcz8_0, hcz8_1, hcz8_2, hcz8_3, hfz8_0, hfz8_1, hfz8_2, hfz8_3⟩ := bc4 BK340
  rotate_left
  replace c6 := Bool.eq_false_iff.mpr c6
  subst c6
  rw [if_neg bn] at H
  have H' := bA H
  clear H
  obtain ⟨hcz11_0, hcz11_1, hcz11_2, hcz11_3, hfz11_0, hfz11_1, hfz11_2, hfz11_3⟩ := bc4 BK340
  rotate_left
  all_goals go_wp2_with (first | ((first | ((with_reducible refine gate_callee (f := 21) rfl ?_); refine bC (some 8) Try.func21 #[.agg #[.int .i64 a0_0, .int .i64 a0_1, .int .i64 a0_2, .int .i64 a0_3]] ?_) | go_at_call 21); (with_reducible refine (box_Right.calls a0_0 a0_1 a0_2 a0_3 true _ A5.out).mono ?_); rintro e wz0 ⟨rfl, hb⟩; (first | refine ⟨_, rfl, ?_⟩ | skip); replace BK340 := bA (bB BK340 hb); replace HB := bA (bS hb); (try clear hb)) | (go_at_call 59; (with_reducible refine (poly_Right.calls k _ _ l1 t342 _ ?side1 ?side2 A7.out).mono ?_); (case side1 => exact bQ HR1); (case side2 => exact HC1.out); rintro e wz1 ⟨rfl, hb⟩; replace BK340 := bA (bB BK340 hb); replace HB := bA (bS hb); (try clear hb)) | ((first | ((with_reducible refine gate_callee (f := 21) rfl ?_); refine bC (some 8) Try.func21 #[.agg #[.int .i64 a0_0, .int .i64 a0_1, .int .i64 a0_2, .int .i64 a0_3]] ?_) | go_at_call 21); (with_reducible refine (box_Right.calls a0_0 a0_1 a0_2 a0_3 false _ A5.out).mono ?_); rintro e wz0 ⟨rfl, hb⟩; (first | refine ⟨_, rfl, ?_⟩ | skip); replace BK340 := bA (bB BK340 hb); replace HB := bA (bS hb); (try clear hb)))
  ·go_meet
   case rel => exact ⟨_, (!t342), bs, H', ⟨by first | omega | exact Nat.le_refl _⟩, ⟨by (with_reducible repeat (first | refine blk_drewN ?_ _ | refine blk_drew ?_ | refine blk_alloc ?_ _)); exact BK340.out⟩, ⟨bX⟩⟩
  go_meet
  case rel => exact ⟨_, (true), bs, H', ⟨by first | omega | exact Nat.le_refl _⟩, ⟨by (with_reducible repeat (first | refine blk_drewN ?_ _ | refine blk_drew ?_ | refine blk_alloc ?_ _)); exact BK340.out⟩, ⟨bX⟩⟩
 clear HC3
 try clear c1
 try clear c2
 try clear p2
 try clear c4
 try clear c6
 try clear hcz11_0
 try clear hcz11_1
 try clear hcz11_2
 try clear hcz11_3
 try clear hcz8_0
 try clear hcz8_1
 try clear hcz8_2
 try clear hcz8_3
 try clear hfz11_0
 try clear hfz11_1
 try clear hfz11_2
 try clear hfz11_3
 try clear hfz8_0
 try clear hfz8_1
 try clear hfz8_2
 try clear hfz8_3
 obtain ⟨kq, x14_2, rfl, HA, HJ2, BK340, HB⟩ := hcut
 cases kq with
 | zero => exact absurd HA.out (by simp [box_Relate.j0])
 | succ kj2 =>
  have H := HA.out
  clear HA
  simp only [box_Relate.j0] at H
  by_cases c13 : x14_2 = true
  ·subst c13
   rw [if_pos rfl] at H
   obtain rfl := Option.some.inj H
   go_wp2
   go_ret
   exact bF
  replace c13 := Bool.eq_false_iff.mpr c13
  subst c13
  rw [if_neg bn] at H
  have H' := bA H
  clear H
  go_wp2
  go_loopg [17] kj2 (fun kq v17 w' => ∃ (x17_2 : Int), v17 = .int .i64 x17_2 ∧ Aside0 (box_Relate.l0 kq l1 l1 (l1.length : Int) x17_2 a0_0 a0_1 a0_2 a0_3 = some r) ∧ Aside0 (kq ≤ kj2) ∧ Aside0 (w'.heap[gb340]? = some (.cells #[.int .i64 a0_0, .int .i64 a0_1, .int .i64 a0_2, .int .i64 a0_3] 30 (0, 0))) ∧ Aside0 (Below w.heap.size w w'))
  case atStart => exact ⟨(0), bs, H', ⟨Nat.le_refl _⟩, ⟨by (with_reducible repeat (first | refine blk_drewN ?_ _ | refine blk_drew ?_ | refine blk_alloc ?_ _)); exact BK340.out⟩, ⟨bX⟩⟩
  clear H'
  try clear c1
  try clear c2
  try clear p2
  try clear c4
  try clear c6
  try clear c13
  try clear hcz11_0
  try clear hcz11_1
  try clear hcz11_2
  try clear hcz11_3
  try clear hcz8_0
  try clear hcz8_1
  try clear hcz8_2
  try clear hcz8_3
  try clear hfz11_0
  try clear hfz11_1
  try clear hfz11_2
  try clear hfz11_3
  try clear hfz8_0
  try clear hfz8_1
  try clear hfz8_2
  try clear hfz8_3
  try clear p2
  obtain ⟨x17_2, rfl, HA, HK2, BK340, HB⟩ := hrel
  cases gk with
  | zero => exact absurd HA.out (by simp [box_Relate.l0])
  | succ k2 =>
   have H := HA.out
   clear HA
   simp only [box_Relate.l0] at H
   by_cases c14 : x17_2 < (l1.length : Int)
   rotate_left
   ·rw [if_neg c14] at H
    have c14b0 : decide (x17_2 < (l1.length : Int)) = false := decide_eq_false c14
    clear c14
    replace H := Option.bind_eq_some_iff.mp H
    obtain ⟨t347, A350, H⟩ := H
    have A35 := bA A350
    clear A350
    obtain rfl := Option.some.inj H
    obtain ⟨hcz36_0, hcz36_1, hcz36_2, hcz36_3, hfz36_0, hfz36_1, hfz36_2, hfz36_3⟩ := bc4 BK340
    go_wp2_with (first | ((first | ((with_reducible refine gate_callee (f := 61) rfl ?_); refine bC (some 37) Try.func61 #[.slice A1 l1.length c1, .agg #[.int .i64 a0_0, .int .i64 a0_1]] ?_) | go_at_call 61); (with_reducible refine (poly_Side.calls k2 _ _ l1 a0_0 a0_1 t347 _ ?side1 ?side2 A35.out).mono ?_); (case side1 => exact bQ HR1); (case side2 => exact HC1.out); rintro e w37 ⟨rfl, hb⟩; (first | refine ⟨_, rfl, ?_⟩ | skip); replace BK340 := bA (bB BK340 hb); replace HB := bA (bS hb); (try clear hb)))
    go_ret
    exact bF
   rw [if_pos c14] at H
   have c14b0 : decide (x17_2 < (l1.length : Int)) = true := decide_eq_true c14
   clear c14
   by_cases c15 : 0 ≤ x17_2
   rotate_left
   ·rw [if_neg c15] at H
    exact absurd H (by simp)
   rw [if_pos c15] at H
   have c15b0 : decide (0 ≤ x17_2) = true := decide_eq_true c15
   clear c15
   by_cases c16 : x17_2 < (l1.length : Int)
   rotate_left
   ·rw [if_neg c16] at H
    exact absurd H (by simp)
   rw [if_pos c16] at H
   have c16b0 : decide (x17_2 < (l1.length : Int)) = true := decide_eq_true c16
   clear c16
   by_cases c17 : (l1.length : Int) = 0
   ·rw [if_pos c17] at H
    exact absurd H (by simp)
   rw [if_neg c17] at H
   have c17b0 : ((l1.length : Int) == 0) = false := beq_eq_false_iff_ne.mpr c17
   have c17b1 : ((l1.length : Int) != 0) = true := bne_iff_ne.mpr c17
   have c17b2 : ¬ (l1 = []) := fun h_ => c17 (by rw [h_]; rfl)
   obtain ⟨ji18, hji18⟩ : ∃ j_ : Int, (Int.tmod (wrap64 (x17_2 + 1)) (l1.length : Int)) = j_ := ⟨_, rfl⟩
   replace H : (if 0 ≤ (ji18) then (if (ji18) < (l1.length : Int) then ((box_Meets.f k2 a0_0 a0_1 a0_2 a0_3 ((rd_T28 l1 x17_2).f0) ((rd_T28 l1 x17_2).f1) ((rd_T28 l1 (ji18)).f0) ((rd_T28 l1 (ji18)).f1)).bind fun t346 => (if t346 = true then (some 0) else (box_Relate.l0 k2 l1 l1 (l1.length : Int) (wrap64 (x17_2 + 1)) a0_0 a0_1 a0_2 a0_3))) else (none)) else (none)) = some r := by first | (rw [hji18] at H; exact H) | (simp only [hji18] at H ⊢; exact H)
   by_cases c19 : 0 ≤ (ji18)
   rotate_left
   ·rw [if_neg c19] at H
    exact absurd H (by simp)
   rw [if_pos c19] at H
   have c19b0 : decide (0 ≤ (ji18)) = true := decide_eq_true c19
   clear c19
   by_cases c20 : (ji18) < (l1.length : Int)
   rotate_left
   ·rw [if_neg c20] at H
    exact absurd H (by simp)
   rw [if_pos c20] at H
   have c20b0 : decide ((ji18) < (l1.length : Int)) = true := decide_eq_true c20
   clear c20
   replace H := Option.bind_eq_some_iff.mp H
   obtain ⟨t346, A210, H⟩ := H
   have A21 := bA A210
   clear A210
   by_cases c22 : t346 = true
   ·subst c22
    rw [if_pos rfl] at H
    obtain rfl := Option.some.inj H
    have p343 : 0 ≤ (x17_2 : Int) := bo
    have q343 : x17_2 < (l1.length : Int) := bo
    obtain ⟨ad343, e343, hx343_0, hx343_1⟩ := at_T28 HR1.out x17_2 p343 q343
    cases e343
    replace hx343_0 := bK hx343_0
    replace hx343_1 := bK hx343_1
    replace p343 := eq_true p343
    replace q343 := eq_true q343
    try go_wp2_with (first | ((with_reducible refine gate_dst (N := 6) rfl ?_); refine bE (N := 6) (cs := #[.int .i64 0, .int .i64 0]) (t := 28) ?_; intro gb344 hg w23 hbox hb; have BK344 := bA (hbox); have GW344 := bA (bZ hg); have GE344 := bA (bZ hg); have NB340_344 := bA (bL BK340 hg); have NB344_340 := bA (bG BK340 hg); replace BK340 := bA (bB BK340 hb); replace HB := bA (bS hb); clear hb hbox hg; have hnb24 := NB344_340.out; have hnc24 := NB340_344.out; obtain ⟨hcz25_0, hcz25_1, hfz25_0, hfz25_1⟩ := bc2 BK344))
    have n0_ : Aside0 (((w23.setCell ⟨gb344, 0, none⟩ (.int .i64 ((rd_T28 l1 x17_2).f0))).setCell ⟨gb344, 1, none⟩ (.int .i64 ((rd_T28 l1 x17_2).f1))).heap[gb340]? = some (.cells #[.int .i64 a0_0, .int .i64 a0_1, .int .i64 a0_2, .int .i64 a0_3] 30 (0, 0))) := ⟨by (repeat ((with_reducible repeat (first | refine blk_drewN ?_ _ | refine blk_drew ?_ | refine blk_alloc ?_ _)); refine blk_far ?_ NB340_344.out _)); (with_reducible repeat (first | refine blk_drewN ?_ _ | refine blk_drew ?_ | refine blk_alloc ?_ _)); exact BK340.out⟩
    have n1_ : Aside0 (((w23.setCell ⟨gb344, 0, none⟩ (.int .i64 ((rd_T28 l1 x17_2).f0))).setCell ⟨gb344, 1, none⟩ (.int .i64 ((rd_T28 l1 x17_2).f1))).heap[gb344]? = some (.cells #[.int .i64 ((rd_T28 l1 x17_2).f0), .int .i64 ((rd_T28 l1 x17_2).f1)] 28 (0, 0))) := ⟨by (with_reducible repeat (first | refine blk_drewN ?_ _ | refine blk_drew ?_ | refine blk_alloc ?_ _)); refine blk_put (cs := #[.int .i64 ((rd_T28 l1 x17_2).f0), .int .i64 0]) ?_ 1 _ rfl; (with_reducible repeat (first | refine blk_drewN ?_ _ | refine blk_drew ?_ | refine blk_alloc ?_ _)); refine blk_put (cs := #[.int .i64 0, .int .i64 0]) ?_ 0 _ rfl; (with_reducible repeat (first | refine blk_drewN ?_ _ | refine blk_drew ?_ | refine blk_alloc ?_ _)); exact BK344.out⟩
    have n2_ : Aside0 (Below w.heap.size w ((w23.setCell ⟨gb344, 0, none⟩ (.int .i64 ((rd_T28 l1 x17_2).f0))).setCell ⟨gb344, 1, none⟩ (.int .i64 ((rd_T28 l1 x17_2).f1)))) := ⟨bX⟩
    (try clear BK340)
    (try clear BK344)
    (try clear HB)
    generalize ((w23.setCell ⟨gb344, 0, none⟩ (.int .i64 ((rd_T28 l1 x17_2).f0))).setCell ⟨gb344, 1, none⟩ (.int .i64 ((rd_T28 l1 x17_2).f1))) = w26 at n0_ n1_ n2_ ⊢
    have BK340 := n0_
    have BK344 := n1_
    have HB := n2_
    clear n0_ n1_ n2_
    replace BK340 := bA (blk_drew BK340.out)
    replace BK344 := bA (blk_drew BK344.out)
    replace HB := bA (below_drew1 HB.out)
    have p345 : 0 ≤ ((ji18) : Int) := bo
    have q345 : (ji18) < (l1.length : Int) := bo
    obtain ⟨ad345, e345, hx345_0, hx345_1⟩ := at_T28 HR1.out (ji18) p345 q345
    have hw345_1 := hx345_1
    have hw345_0 := hx345_0
    obtain rfl : ad343 = ad345 := (by injection e345)
    replace hx345_0 := bK hx345_0
    replace hx345_1 := bK hx345_1
    replace p345 := eq_true p345
    replace q345 := eq_true q345
    refine start_ (n := 11) (S := fun w' => w'.cell? ⟨gb340, 0, none⟩ = some (.int .i64 a0_0) ∧ w'.cell? ⟨gb340, 1, none⟩ = some (.int .i64 a0_1) ∧ w'.cell? ⟨gb340, 2, none⟩ = some (.int .i64 a0_2) ∧ w'.cell? ⟨gb340, 3, none⟩ = some (.int .i64 a0_3) ∧ w'.cell? ⟨gb344, 0, none⟩ = some (.int .i64 ((rd_T28 l1 x17_2).f0)) ∧ w'.cell? ⟨gb344, 1, none⟩ = some (.int .i64 ((rd_T28 l1 x17_2).f1)) ∧ w'.cell? (ad343.add (((ji18)).toNat * 2)) = some (.int .i64 ((rd_T28 l1 (ji18)).f0)) ∧ w'.cell? ⟨(ad343.add (((ji18)).toNat * 2)).block, (ad343.add (((ji18)).toNat * 2)).off + 1, none⟩ = some (.int .i64 ((rd_T28 l1 (ji18)).f1))) (ds := []) #[false,false,false,false,false,false,false,false,false,false,false] (by kernel_rfl) rfl rfl ⟨bq BK340 0, bq BK340 1, bq BK340 2, bq BK340 3, bq BK344 0, bq BK344 1, (bK hw345_0), (bK hw345_1)⟩ (fun hHeld => ?_); refine with_tabW box_Relate.tab6 box_Relate.bits6 (fun HT_ HW_ => ?_)
    generalize w26.drew = w27 at BK340 BK344 HB hx345_0 hx345_1 hHeld ⊢
    refine bU (i := 2) (N := some 24) ?_
    refine bU (i := 3) (N := some 25) ?_
    refine bU (i := 4) (N := some 26) ?_
    refine bU (i := 5) (N := some 27) ?_
    refine bU (i := 6) (N := some 28) ?_
    refine bU (i := 7) (N := some 29) ?_
    refine bU (i := 8) (N := some 30) ?_
    refine bW (i := 0) (N := some 22) hHeld ?_
    refine bW (i := 1) (N := some 23) hHeld ?_
    refine bW (i := 9) (N := some 31) hHeld ?_
    refine one_ (i := 10) (N := some 32) #[true,true,true,true,true,true,true,true,true,true,true] rfl rfl (one_of HT_.out (by kernel_rfl)) (by decide) (fun K hK => ?_)
    refine goes_ Try.func60 (by kernel_rfl) rfl #[.agg #[.int .i64 a0_0, .int .i64 a0_1, .int .i64 a0_2, .int .i64 a0_3], .agg #[.int .i64 ((rd_T28 l1 x17_2).f0), .int .i64 ((rd_T28 l1 x17_2).f1)], .agg #[.int .i64 ((rd_T28 l1 (ji18)).f0), .int .i64 ((rd_T28 l1 (ji18)).f1)]] (by rfl) rfl rfl (by (try simp only [List.map_toArray, List.map_cons, List.map_nil]); first | done | (simp only [hji18]; rfl) | rfl | (simp only [List.length_drop, List.length_take]; rfl)) ?_
    with_reducible refine (box_Meets.calls k2 a0_0 a0_1 a0_2 a0_3 ((rd_T28 l1 x17_2).f0) ((rd_T28 l1 x17_2).f1) ((rd_T28 l1 (ji18)).f0) ((rd_T28 l1 (ji18)).f1) true _ A21.out).mono ?_
    rintro e w28 ⟨rfl, hb⟩
    refine ⟨_, rfl, ?_⟩
    replace BK340 := bA (bB BK340 hb)
    replace BK344 := bA (bB BK344 hb)
    replace HB := bA (bS hb)
    (try clear hb)
    refine hK.out _ _ ⟨bq BK340 0, bq BK340 1, bq BK340 2, bq BK340 3, bq BK344 0, bq BK344 1, (bK hw345_0), (bK hw345_1)⟩ (fun hHeld => ?_)
    clear hK K
    refine bI 32 ?_
    refine done_ (done_of HT_.out (by kernel_rfl)) ?_
    try go_wp2
    go_ret
    exact ⟨by first | rfl | (simp [errW_none, errW_some] <;> rfl) | (simp only [← hji18]; first | rfl | (simp [errW_none, errW_some] <;> rfl)) | (simp [*, errW_none, errW_some] <;> rfl), by repeat (first | (with_reducible first | exact HB.out | apply below_alloc | apply pw_below_drewN | apply below_drew1 | refine below_set ?_ GE340.out | refine below_set ?_ GE344.out) | exact HB.out)⟩
   replace c22 := Bool.eq_false_iff.mpr c22
   subst c22
   rw [if_neg bn] at H
   have H' := bA H
   clear H
   have p343 : 0 ≤ (x17_2 : Int) := bo
   have q343 : x17_2 < (l1.length : Int) := bo
   obtain ⟨ad343, e343, hx343_0, hx343_1⟩ := at_T28 HR1.out x17_2 p343 q343
   cases e343
   replace hx343_0 := bK hx343_0
   replace hx343_1 := bK hx343_1
   replace p343 := eq_true p343
   replace q343 := eq_true q343
   try go_wp2_with (first | ((with_reducible refine gate_dst (N := 6) rfl ?_); refine bE (N := 6) (cs := #[.int .i64 0, .int .i64 0]) (t := 28) ?_; intro gb344 hg w29 hbox hb; have BK344 := bA (hbox); have GW344 := bA (bZ hg); have GE344 := bA (bZ hg); have NB340_344 := bA (bL BK340 hg); have NB344_340 := bA (bG BK340 hg); replace BK340 := bA (bB BK340 hb); replace HB := bA (bS hb); clear hb hbox hg; have hnb30 := NB344_340.out; have hnc30 := NB340_344.out; obtain ⟨hcz31_0, hcz31_1, hfz31_0, hfz31_1⟩ := bc2 BK344))
   have n0_ : Aside0 (((w29.setCell ⟨gb344, 0, none⟩ (.int .i64 ((rd_T28 l1 x17_2).f0))).setCell ⟨gb344, 1, none⟩ (.int .i64 ((rd_T28 l1 x17_2).f1))).heap[gb340]? = some (.cells #[.int .i64 a0_0, .int .i64 a0_1, .int .i64 a0_2, .int .i64 a0_3] 30 (0, 0))) := ⟨by (repeat ((with_reducible repeat (first | refine blk_drewN ?_ _ | refine blk_drew ?_ | refine blk_alloc ?_ _)); refine blk_far ?_ NB340_344.out _)); (with_reducible repeat (first | refine blk_drewN ?_ _ | refine blk_drew ?_ | refine blk_alloc ?_ _)); exact BK340.out⟩
   have n1_ : Aside0 (((w29.setCell ⟨gb344, 0, none⟩ (.int .i64 ((rd_T28 l1 x17_2).f0))).setCell ⟨gb344, 1, none⟩ (.int .i64 ((rd_T28 l1 x17_2).f1))).heap[gb344]? = some (.cells #[.int .i64 ((rd_T28 l1 x17_2).f0), .int .i64 ((rd_T28 l1 x17_2).f1)] 28 (0, 0))) := ⟨by (with_reducible repeat (first | refine blk_drewN ?_ _ | refine blk_drew ?_ | refine blk_alloc ?_ _)); refine blk_put (cs := #[.int .i64 ((rd_T28 l1 x17_2).f0), .int .i64 0]) ?_ 1 _ rfl; (with_reducible repeat (first | refine blk_drewN ?_ _ | refine blk_drew ?_ | refine blk_alloc ?_ _)); refine blk_put (cs := #[.int .i64 0, .int .i64 0]) ?_ 0 _ rfl; (with_reducible repeat (first | refine blk_drewN ?_ _ | refine blk_drew ?_ | refine blk_alloc ?_ _)); exact BK344.out⟩
   have n2_ : Aside0 (Below w.heap.size w ((w29.setCell ⟨gb344, 0, none⟩ (.int .i64 ((rd_T28 l1 x17_2).f0))).setCell ⟨gb344, 1, none⟩ (.int .i64 ((rd_T28 l1 x17_2).f1)))) := ⟨bX⟩
   (try clear BK340)
   (try clear BK344)
   (try clear HB)
   generalize ((w29.setCell ⟨gb344, 0, none⟩ (.int .i64 ((rd_T28 l1 x17_2).f0))).setCell ⟨gb344, 1, none⟩ (.int .i64 ((rd_T28 l1 x17_2).f1))) = w32 at n0_ n1_ n2_ ⊢
   have BK340 := n0_
   have BK344 := n1_
   have HB := n2_
   clear n0_ n1_ n2_
   replace BK340 := bA (blk_drew BK340.out)
   replace BK344 := bA (blk_drew BK344.out)
   replace HB := bA (below_drew1 HB.out)
   have p345 : 0 ≤ ((ji18) : Int) := bo
   have q345 : (ji18) < (l1.length : Int) := bo
   obtain ⟨ad345, e345, hx345_0, hx345_1⟩ := at_T28 HR1.out (ji18) p345 q345
   have hw345_1 := hx345_1
   have hw345_0 := hx345_0
   obtain rfl : ad343 = ad345 := (by injection e345)
   replace hx345_0 := bK hx345_0
   replace hx345_1 := bK hx345_1
   replace p345 := eq_true p345
   replace q345 := eq_true q345
   refine start_ (n := 11) (S := fun w' => w'.cell? ⟨gb340, 0, none⟩ = some (.int .i64 a0_0) ∧ w'.cell? ⟨gb340, 1, none⟩ = some (.int .i64 a0_1) ∧ w'.cell? ⟨gb340, 2, none⟩ = some (.int .i64 a0_2) ∧ w'.cell? ⟨gb340, 3, none⟩ = some (.int .i64 a0_3) ∧ w'.cell? ⟨gb344, 0, none⟩ = some (.int .i64 ((rd_T28 l1 x17_2).f0)) ∧ w'.cell? ⟨gb344, 1, none⟩ = some (.int .i64 ((rd_T28 l1 x17_2).f1)) ∧ w'.cell? (ad343.add (((ji18)).toNat * 2)) = some (.int .i64 ((rd_T28 l1 (ji18)).f0)) ∧ w'.cell? ⟨(ad343.add (((ji18)).toNat * 2)).block, (ad343.add (((ji18)).toNat * 2)).off + 1, none⟩ = some (.int .i64 ((rd_T28 l1 (ji18)).f1))) (ds := []) #[false,false,false,false,false,false,false,false,false,false,false] (by kernel_rfl) rfl rfl ⟨bq BK340 0, bq BK340 1, bq BK340 2, bq BK340 3, bq BK344 0, bq BK344 1, (bK hw345_0), (bK hw345_1)⟩ (fun hHeld => ?_); refine with_tabW box_Relate.tab6 box_Relate.bits6 (fun HT_ HW_ => ?_)
   generalize w32.drew = w33 at BK340 BK344 HB hx345_0 hx345_1 hHeld ⊢
   refine bU (i := 2) (N := some 24) ?_
   refine bU (i := 3) (N := some 25) ?_
   refine bU (i := 4) (N := some 26) ?_
   refine bU (i := 5) (N := some 27) ?_
   refine bU (i := 6) (N := some 28) ?_
   refine bU (i := 7) (N := some 29) ?_
   refine bU (i := 8) (N := some 30) ?_
   refine bW (i := 0) (N := some 22) hHeld ?_
   refine bW (i := 1) (N := some 23) hHeld ?_
   refine bW (i := 9) (N := some 31) hHeld ?_
   refine one_ (i := 10) (N := some 32) #[true,true,true,true,true,true,true,true,true,true,true] rfl rfl (one_of HT_.out (by kernel_rfl)) (by decide) (fun K hK => ?_)
   refine goes_ Try.func60 (by kernel_rfl) rfl #[.agg #[.int .i64 a0_0, .int .i64 a0_1, .int .i64 a0_2, .int .i64 a0_3], .agg #[.int .i64 ((rd_T28 l1 x17_2).f0), .int .i64 ((rd_T28 l1 x17_2).f1)], .agg #[.int .i64 ((rd_T28 l1 (ji18)).f0), .int .i64 ((rd_T28 l1 (ji18)).f1)]] (by rfl) rfl rfl (by (try simp only [List.map_toArray, List.map_cons, List.map_nil]); first | done | (simp only [hji18]; rfl) | rfl | (simp only [List.length_drop, List.length_take]; rfl)) ?_
   with_reducible refine (box_Meets.calls k2 a0_0 a0_1 a0_2 a0_3 ((rd_T28 l1 x17_2).f0) ((rd_T28 l1 x17_2).f1) ((rd_T28 l1 (ji18)).f0) ((rd_T28 l1 (ji18)).f1) false _ A21.out).mono ?_
   rintro e w34 ⟨rfl, hb⟩
   refine ⟨_, rfl, ?_⟩
   replace BK340 := bA (bB BK340 hb)
   replace BK344 := bA (bB BK344 hb)
   replace HB := bA (bS hb)
   (try clear hb)
   refine hK.out _ _ ⟨bq BK340 0, bq BK340 1, bq BK340 2, bq BK340 3, bq BK344 0, bq BK344 1, (bK hw345_0), (bK hw345_1)⟩ (fun hHeld => ?_)
   clear hK K
   refine bI 32 ?_
   refine done_ (done_of HT_.out (by kernel_rfl)) ?_
   try go_wp2
   go_roundg k2
   case measure => have := HJ2.out; have := HK2.out; omega
   case rel => exact ⟨(wrap64 (x17_2 + 1)), bs, H', ⟨by have := HJ2.out; have := HK2.out; omega⟩, ⟨by (with_reducible repeat (first | refine blk_drewN ?_ _ | refine blk_drew ?_ | refine blk_alloc ?_ _)); exact BK340.out⟩, ⟨bX⟩⟩
/-! ### verdict_Place: function 30 -/
def verdict_Place.f (k : Nat) (a0_0 : Int) (a0_1 : Int) (a0_2 : Int) (a0_3 : Int) (a0_4 : Int) (a0_5 : Int) (a0_6 : Int) (a0_7 : Int) (l1_0 : List (S28)) (a1_1 : Int) (a1_2 : Int) (a1_3 : Int) (a1_4 : Int) (a2 : Int) : Option (Int) := (impact_Box.f k a0_0 a0_1 a0_2 a0_3 a0_4 a0_5 a0_6 a0_7 a1_1 a2).bind fun bt350 => (if bt350.2.2.2.2 = true then ((box_Relate.f k bt350.1 bt350.2.1 bt350.2.2.1 bt350.2.2.2.1 l1_0).bind fun t356 => (some t356)) else (some 0))
theorem verdict_Place.mono : ∀ a0 a1 a2 a3 a4 a5 a6 a7 a8 a9 a10 a11 a12 a13 k, LeO (verdict_Place.f k a0 a1 a2 a3 a4 a5 a6 a7 a8 a9 a10 a11 a12 a13) (verdict_Place.f (k + 1) a0 a1 a2 a3 a4 a5 a6 a7 a8 a9 a10 a11 a12 a13) := by
 intro a0 a1 a2 a3 a4 a5 a6 a7 a8 a9 a10 a11 a12 a13 k
 unfold verdict_Place.f
 have m0_ := @box_Relate.mono
 have m1_ := @impact_Box.mono
 exact bMo
set_option maxHeartbeats 8000000 in
set_option maxRecDepth 100000 in
theorem verdict_Place.calls (k : Nat) (a0_0 : Int) (a0_1 : Int) (a0_2 : Int) (a0_3 : Int) (a0_4 : Int) (a0_5 : Int) (a0_6 : Int) (a0_7 : Int) (A1_0 : Option Addr) (c1_0 : Nat) (l1_0 : List (S28)) (a1_1 : Int) (a1_2 : Int) (a1_3 : Int) (a1_4 : Int) (a2 : Int) (r : Int) (w : World) (hr1_0 : Kd.C k28 w A1_0 l1_0.length l1_0) (hc1_0 : l1_0.length ≤ c1_0) (h : verdict_Place.f k a0_0 a0_1 a0_2 a0_3 a0_4 a0_5 a0_6 a0_7 l1_0 a1_1 a1_2 a1_3 a1_4 a2 = some r) :
  Calls Try.prog 30 #[.agg #[.int .i64 a0_0, .int .i64 a0_1, .int .i64 a0_2, .int .i64 a0_3, .int .i64 a0_4, .int .i64 a0_5, .int .i64 a0_6, .int .i64 a0_7], .agg #[.slice A1_0 l1_0.length c1_0, .int .i64 a1_1, .int .i64 a1_2, .int .i64 a1_3, .int .i64 a1_4], .int .i64 a2] w fun e w' => e = .returned (.int .i64 r) ∧ Below w.heap.size w w' := by
 have hu23 := Try.underlying23
 have hu42 := Try.underlying42
 have hu30 := Try.underlying30
 have HR1_0 := bA hr1_0
 have HC1_0 := bA hc1_0
 clear hr1_0 hc1_0
 have HB := bA (Below.refl w.heap.size w)
 have H : ((impact_Box.f k a0_0 a0_1 a0_2 a0_3 a0_4 a0_5 a0_6 a0_7 a1_1 a2).bind fun bt350 => (if bt350.2.2.2.2 = true then ((box_Relate.f k bt350.1 bt350.2.1 bt350.2.2.1 bt350.2.2.2.1 l1_0).bind fun t356 => (some t356)) else (some 0))) = some r := h
 clear h
 replace H := Option.bind_eq_some_iff.mp H
 obtain ⟨⟨t350, t351, t352, t353, t354⟩, A40, H⟩ := H
 replace H : (if t354 = true then ((box_Relate.f k t350 t351 t352 t353 l1_0).bind fun t356 => (some t356)) else (some 0)) = some r := H
 have A4 := bA A40
 clear A40
 by_cases c5 : t354 = true
 subst c5
 rw [if_pos rfl] at H
 replace H := Option.bind_eq_some_iff.mp H
 obtain ⟨t356, A60, H⟩ := H
 have A6 := bA A60
 clear A60
 obtain rfl := Option.some.inj H
 rotate_left
 replace c5 := Bool.eq_false_iff.mpr c5
 subst c5
 rw [if_neg bn] at H
 obtain rfl := Option.some.inj H
 rotate_left
 all_goals go_enter Try.func30, Try.ntmps30
 all_goals go_wp2_with (first | ((with_reducible refine gate_dst (N := 3) rfl ?_); refine bE (N := 3) (cs := #[.int .i64 a0_0, .int .i64 a0_1, .int .i64 a0_2, .int .i64 a0_3, .int .i64 a0_4, .int .i64 a0_5, .int .i64 a0_6, .int .i64 a0_7]) (t := 23) ?_; intro gb348 hg wz0 hbox hb; have BK348 := bA (hbox); have GW348 := bA (bZ hg); have GE348 := bA (bZ hg); replace HB := bA (bS hb); clear hb hbox hg) | ((with_reducible refine gate_dst (N := 4) rfl ?_); refine bE (N := 4) (cs := #[.slice A1_0 l1_0.length c1_0, .int .i64 a1_1, .int .i64 a1_2, .int .i64 a1_3, .int .i64 a1_4]) (t := 42) ?_; intro gb349 hg wz1 hbox hb; have BK349 := bA (hbox); have GW349 := bA (bZ hg); have GE349 := bA (bZ hg); have NB348_349 := bA (bL BK348 hg); have NB349_348 := bA (bG BK348 hg); replace BK348 := bA (bB BK348 hb); replace HB := bA (bS hb); clear hb hbox hg; have hz1 := NB348_349.out; have hz2 := NB349_348.out; obtain ⟨hz3, hz4, hz5, hz6, hz7, hz8, hz9, hz10, hz11, hz12, hz13, hz14, hz15, hz16, hz17, hz18⟩ := bc8 BK348; obtain ⟨hz19, hz20, hz21, hz22, hz23, hz24, hz25, hz26, hz27, hz28⟩ := bc5 BK349) | ((first | ((with_reducible refine gate_callee (f := 7) rfl ?_); refine bC (some 14) Try.func7 #[.agg #[.int .i64 a0_0, .int .i64 a0_1, .int .i64 a0_2, .int .i64 a0_3, .int .i64 a0_4, .int .i64 a0_5, .int .i64 a0_6, .int .i64 a0_7], .int .i64 a1_1, .int .i64 a2] ?_) | go_at_call 7); (with_reducible refine (impact_Box.calls k a0_0 a0_1 a0_2 a0_3 a0_4 a0_5 a0_6 a0_7 a1_1 a2 t350 t351 t352 t353 true _ A4.out).mono ?_); rintro e wz2 ⟨rfl, hb⟩; (first | refine ⟨_, rfl, ?_⟩ | skip); replace BK348 := bA (bB BK348 hb); replace BK349 := bA (bB BK349 hb); replace HB := bA (bS hb); (try clear hb)) | ((with_reducible refine gate_dst (N := 7) rfl ?_); refine bE (N := 7) (cs := #[.int .i64 0, .int .i64 0, .int .i64 0, .int .i64 0]) (t := 30) ?_; intro gb355 hg wz3 hbox hb; have BK355 := bA (hbox); have GW355 := bA (bZ hg); have GE355 := bA (bZ hg); have NB348_355 := bA (bL BK348 hg); have NB355_348 := bA (bG BK348 hg); have NB349_355 := bA (bL BK349 hg); have NB355_349 := bA (bG BK349 hg); replace BK348 := bA (bB BK348 hb); replace BK349 := bA (bB BK349 hb); replace HB := bA (bS hb); clear hb hbox hg; have hz29 := NB355_348.out; have hz30 := NB348_355.out; have hz31 := NB355_349.out; have hz32 := NB349_355.out; obtain ⟨hz33, hz34, hz35, hz36, hz37, hz38, hz39, hz40⟩ := bc4 BK355; obtain ⟨hz41, hz42, hz43, hz44, hz45, hz24, hz25, hz26, hz27, hz28⟩ := bc5 BK349) | ((first | ((with_reducible refine gate_callee (f := 48) rfl ?_); refine bC (some 22) Try.func48 #[.agg #[.int .i64 t350, .int .i64 t351, .int .i64 t352, .int .i64 t353], .slice A1_0 l1_0.length c1_0] ?_) | go_at_call 48); (with_reducible refine (box_Relate.calls k t350 t351 t352 t353 _ _ l1_0 t356 _ ?side1 ?side2 A6.out).mono ?_); (case side1 => exact Kd.C_below HR1_0.out bX); (case side2 => exact HC1_0.out); rintro e wz4 ⟨rfl, hb⟩; (first | refine ⟨_, rfl, ?_⟩ | skip); replace BK348 := bA (blk_below (g := gb348) (o := .cells #[.int .i64 a0_0, .int .i64 a0_1, .int .i64 a0_2, .int .i64 a0_3, .int .i64 a0_4, .int .i64 a0_5, .int .i64 a0_6, .int .i64 a0_7] 23 (0, 0)) (by (repeat ((with_reducible repeat (first | refine blk_drewN ?_ _ | refine blk_drew ?_ | refine blk_alloc ?_ _)); refine blk_far ?_ NB348_355.out _)); (with_reducible repeat (first | refine blk_drewN ?_ _ | refine blk_drew ?_ | refine blk_alloc ?_ _)); exact BK348.out) hb); replace BK349 := bA (blk_below (g := gb349) (o := .cells #[.slice A1_0 l1_0.length c1_0, .int .i64 a1_1, .int .i64 a1_2, .int .i64 a1_3, .int .i64 a1_4] 42 (0, 0)) (by (repeat ((with_reducible repeat (first | refine blk_drewN ?_ _ | refine blk_drew ?_ | refine blk_alloc ?_ _)); refine blk_far ?_ NB349_355.out _)); (with_reducible repeat (first | refine blk_drewN ?_ _ | refine blk_drew ?_ | refine blk_alloc ?_ _)); exact BK349.out) hb); replace BK355 := bA (blk_below (g := gb355) (o := .cells #[.int .i64 t350, .int .i64 t351, .int .i64 t352, .int .i64 t353] 30 (0, 0)) (by (with_reducible repeat (first | refine blk_drewN ?_ _ | refine blk_drew ?_ | refine blk_alloc ?_ _)); refine blk_put (cs := #[.int .i64 t350, .int .i64 t351, .int .i64 t352, .int .i64 0]) ?_ 3 _ rfl; (with_reducible repeat (first | refine blk_drewN ?_ _ | refine blk_drew ?_ | refine blk_alloc ?_ _)); refine blk_put (cs := #[.int .i64 t350, .int .i64 t351, .int .i64 0, .int .i64 0]) ?_ 2 _ rfl; (with_reducible repeat (first | refine blk_drewN ?_ _ | refine blk_drew ?_ | refine blk_alloc ?_ _)); refine blk_put (cs := #[.int .i64 t350, .int .i64 0, .int .i64 0, .int .i64 0]) ?_ 1 _ rfl; (with_reducible repeat (first | refine blk_drewN ?_ _ | refine blk_drew ?_ | refine blk_alloc ?_ _)); refine blk_put (cs := #[.int .i64 0, .int .i64 0, .int .i64 0, .int .i64 0]) ?_ 0 _ rfl; (with_reducible repeat (first | refine blk_drewN ?_ _ | refine blk_drew ?_ | refine blk_alloc ?_ _)); exact BK355.out) hb); replace HB := bA (bS hb); (try clear hb)) | ((first | ((with_reducible refine gate_callee (f := 7) rfl ?_); refine bC (some 14) Try.func7 #[.agg #[.int .i64 a0_0, .int .i64 a0_1, .int .i64 a0_2, .int .i64 a0_3, .int .i64 a0_4, .int .i64 a0_5, .int .i64 a0_6, .int .i64 a0_7], .int .i64 a1_1, .int .i64 a2] ?_) | go_at_call 7); (with_reducible refine (impact_Box.calls k a0_0 a0_1 a0_2 a0_3 a0_4 a0_5 a0_6 a0_7 a1_1 a2 t350 t351 t352 t353 false _ A4.out).mono ?_); rintro e wz2 ⟨rfl, hb⟩; (first | refine ⟨_, rfl, ?_⟩ | skip); replace BK348 := bA (bB BK348 hb); replace BK349 := bA (bB BK349 hb); replace HB := bA (bS hb); (try clear hb)))
 all_goals (go_ret; exact bF)
end Go.Proofs.Ytfeekdoakoabeaa.G
