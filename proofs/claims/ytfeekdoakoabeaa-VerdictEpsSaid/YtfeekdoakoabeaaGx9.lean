-- Written by a program of this session out of the translation; Lean checks it.
import Derived.Test.YtfeekdoakoabeaaGx0
import Derived.Test.YtfeekdoakoabeaaGx5
import Derived.Test.YtfeekdoakoabeaaGx8
namespace Go.Proofs.Ytfeekdoakoabeaa.G
open Go.RowKit Go.Proofs.YtfeekdoakoabeaaW.PrintWords Go.Proofs.YtfeekdoakoabeaaW.PrintLast Go.Proofs.YtfeekdoakoabeaaW.PrintMore
attribute [local go_sem] max2_int min2_int max_two min_two max_three min_three max_four min_four   -- for this text's walks alone
set_option linter.unusedVariables false
set_option linter.unusedSimpArgs false

/-! ### point_right: function 83 -/
def point_right.f (k : Nat) (l0 : List (S28)) : Option (Bool) := (slices_ContainsFunc_Point_F_point_right_1.f k l0).bind fun t241 => (some (!t241))
theorem point_right.mono : ∀ a0 k, LeO (point_right.f k a0) (point_right.f (k + 1) a0) := by
 intro a0 k
 unfold point_right.f
 have m0_ := @slices_ContainsFunc_Point_F_point_right_1.mono
 exact bMo
set_option maxHeartbeats 8000000 in
set_option maxRecDepth 100000 in
theorem point_right.calls (k : Nat) (A0 : Option Addr) (c0 : Nat) (l0 : List (S28)) (r : Bool) (w : World) (hr0 : Kd.C k28 w A0 l0.length l0) (hc0 : l0.length ≤ c0) (h : point_right.f k l0 = some r) :
  Calls Try.prog 83 #[.slice A0 l0.length c0] w fun e w' => e = .returned (.bool r) ∧ Below w.heap.size w w' := by
 have HR0 := bA hr0
 have HC0 := bA hc0
 clear hr0 hc0
 have HB := bA (Below.refl w.heap.size w)
 have H : ((slices_ContainsFunc_Point_F_point_right_1.f k l0).bind fun t241 => (some (!t241))) = some r := h
 clear h
 replace H := Option.bind_eq_some_iff.mp H
 obtain ⟨t241, A20, H⟩ := H
 have A2 := bA A20
 clear A20
 obtain rfl := Option.some.inj H
 go_enter Try.func83, Try.ntmps83
 go_wp2_with (first | ((first | ((with_reducible refine gate_callee (f := 70) rfl ?_); refine bC (some 4) Try.func70 #[.slice A0 l0.length c0, .func (.func 92) #[] #[]] ?_) | go_at_call 70); (with_reducible refine (slices_ContainsFunc_Point_F_point_right_1.calls k _ _ l0  t241 _ ?side1 ?side2 A2.out).mono ?_); (case side1 => repeat (first | exact HR0.out | (with_reducible refine Kd.C_alloc ?_ _) | (with_reducible refine Kd.C_drewN ?_ _) | (with_reducible refine Kd.C_drew ?_))); (case side2 => exact HC0.out); rintro e w3 ⟨rfl, hb⟩; (first | refine ⟨_, rfl, ?_⟩ | skip); replace HB := bA (bS hb); (try clear hb)))
 go_ret
 exact bF
/-! ### wide_Mul: function 84 -/
def wide_Mul.f (a0 : Int) (a1 : Int) : Option (Int × Int) := (bits_Mul64.f (IntKind.u64.wrap (a0)) (IntKind.u64.wrap (a1))).bind fun bt243 => (if a0 < 0 then (if a1 < 0 then (some (wrap64 (IntKind.u64.wrap ((IntKind.u64.wrap (bt243.1 - (IntKind.u64.wrap (a1)))) - (IntKind.u64.wrap (a0)))), bt243.2)) else (some (wrap64 (IntKind.u64.wrap (bt243.1 - (IntKind.u64.wrap (a1)))), bt243.2))) else (if a1 < 0 then (some (wrap64 (IntKind.u64.wrap (bt243.1 - (IntKind.u64.wrap (a0)))), bt243.2)) else (some (wrap64 (bt243.1), bt243.2))))
set_option maxHeartbeats 8000000 in
set_option maxRecDepth 100000 in
theorem wide_Mul.calls (a0 : Int) (a1 : Int) (r1 : Int) (r2 : Int) (w : World) (h : wide_Mul.f a0 a1 = some (r1, r2)) :
  Calls Try.prog 84 #[.int .i64 a0, .int .i64 a1] w fun e w' => e = .returned (.agg #[.int .i64 r1, .int .u64 r2]) ∧ Below w.heap.size w w' := by
 have hu84 := Try.underlying84
 have HB := bA (Below.refl w.heap.size w)
 have H : ((bits_Mul64.f (IntKind.u64.wrap (a0)) (IntKind.u64.wrap (a1))).bind fun bt243 => (if a0 < 0 then (if a1 < 0 then (some (wrap64 (IntKind.u64.wrap ((IntKind.u64.wrap (bt243.1 - (IntKind.u64.wrap (a1)))) - (IntKind.u64.wrap (a0)))), bt243.2)) else (some (wrap64 (IntKind.u64.wrap (bt243.1 - (IntKind.u64.wrap (a1)))), bt243.2))) else (if a1 < 0 then (some (wrap64 (IntKind.u64.wrap (bt243.1 - (IntKind.u64.wrap (a0)))), bt243.2)) else (some (wrap64 (bt243.1), bt243.2))))) = some (r1, r2) := h
 clear h
 replace H := Option.bind_eq_some_iff.mp H
 obtain ⟨⟨t243, t244⟩, A30, H⟩ := H
 replace H : (if a0 < 0 then (if a1 < 0 then (some (wrap64 (IntKind.u64.wrap ((IntKind.u64.wrap (t243 - (IntKind.u64.wrap (a1)))) - (IntKind.u64.wrap (a0)))), t244)) else (some (wrap64 (IntKind.u64.wrap (t243 - (IntKind.u64.wrap (a1)))), t244))) else (if a1 < 0 then (some (wrap64 (IntKind.u64.wrap (t243 - (IntKind.u64.wrap (a0)))), t244)) else (some (wrap64 (t243), t244)))) = some (r1, r2) := H
 have A3 := bA A30
 clear A30
 by_cases c4 : a0 < 0
 rw [if_pos c4] at H
 have c4b0 : decide (a0 < 0) = true := decide_eq_true c4
 clear c4
 by_cases c5 : a1 < 0
 rw [if_pos c5] at H
 have c5b0 : decide (a1 < 0) = true := decide_eq_true c5
 clear c5
 simp only [Option.some.injEq, Prod.mk.injEq] at H
 obtain ⟨rfl, rfl⟩ := H
 rotate_left
 rw [if_neg c5] at H
 have c5b0 : decide (a1 < 0) = false := decide_eq_false c5
 clear c5
 simp only [Option.some.injEq, Prod.mk.injEq] at H
 obtain ⟨rfl, rfl⟩ := H
 rotate_left
 rw [if_neg c4] at H
 have c4b0 : decide (a0 < 0) = false := decide_eq_false c4
 clear c4
 by_cases c10 : a1 < 0
 rw [if_pos c10] at H
 have c10b0 : decide (a1 < 0) = true := decide_eq_true c10
 clear c10
 simp only [Option.some.injEq, Prod.mk.injEq] at H
 obtain ⟨rfl, rfl⟩ := H
 rotate_left
 rw [if_neg c10] at H
 have c10b0 : decide (a1 < 0) = false := decide_eq_false c10
 clear c10
 simp only [Option.some.injEq, Prod.mk.injEq] at H
 obtain ⟨rfl, rfl⟩ := H
 rotate_left
 all_goals go_enter Try.func84, Try.ntmps84
 all_goals go_wp2_with (first | ((with_reducible refine gate_dst (N := 4) rfl ?_); refine bE (N := 4) (cs := #[.int .i64 0, .int .u64 0]) (t := 84) ?_; intro gb242 hg wz0 hbox hb; have BK242 := bA (hbox); have GW242 := bA (bZ hg); have GE242 := bA (bZ hg); replace HB := bA (bS hb); clear hb hbox hg) | ((first | ((with_reducible refine gate_callee (f := 93) rfl ?_); refine bC (some 12) Try.func93 #[.int .u64 (IntKind.u64.wrap (a0)), .int .u64 (IntKind.u64.wrap (a1))] ?_) | go_at_call 93); (with_reducible refine (bits_Mul64.calls (IntKind.u64.wrap (a0)) (IntKind.u64.wrap (a1)) t243 t244 _ A3.out).mono ?_); rintro e w' ⟨rfl, ⟨nd, rfl⟩⟩; (first | refine ⟨_, rfl, ?_⟩ | skip); (try (rw [drewN_self wz0]; generalize hq_ : World.drewN wz0 _ = wz0; have n0_ : Aside0 (wz0.heap[gb242]? = some (.cells #[.int .i64 0, .int .u64 0] 84 (0, 0))) := ⟨by rw [← hq_]; exact (bP BK242)⟩; have n1_ : Aside0 (Below w.heap.size w wz0) := ⟨by rw [← hq_]; exact bX⟩; clear BK242 HB hq_; have BK242 := n0_; have HB := n1_; clear n0_ n1_)); obtain ⟨hz1, hz2, hz3, hz4⟩ := bc2 BK242))
 ·refine bodyPost_ret (results_cell_row rfl _ _ gb242 84 #[.int .i64 (wrap64 (IntKind.u64.wrap ((IntKind.u64.wrap (t243 - (IntKind.u64.wrap (a1)))) - (IntKind.u64.wrap (a0))))), .int .u64 t244] (0, 0) _ rfl (by (with_reducible repeat (first | refine blk_drewN ?_ _ | refine blk_drew ?_ | refine blk_alloc ?_ _)); refine blk_put (cs := #[.int .i64 (wrap64 (IntKind.u64.wrap ((IntKind.u64.wrap (t243 - (IntKind.u64.wrap (a1)))) - (IntKind.u64.wrap (a0))))), .int .u64 0]) ?_ 1 _ rfl; (with_reducible repeat (first | refine blk_drewN ?_ _ | refine blk_drew ?_ | refine blk_alloc ?_ _)); refine blk_put (cs := #[.int .i64 0, .int .u64 0]) ?_ 0 _ rfl; (with_reducible repeat (first | refine blk_drewN ?_ _ | refine blk_drew ?_ | refine blk_alloc ?_ _)); exact BK242.out) Try.underlying84 rfl (by kernel_rfl)) rfl ?_
  exact bF
 ·refine bodyPost_ret (results_cell_row rfl _ _ gb242 84 #[.int .i64 (wrap64 (IntKind.u64.wrap (t243 - (IntKind.u64.wrap (a1))))), .int .u64 t244] (0, 0) _ rfl (by (with_reducible repeat (first | refine blk_drewN ?_ _ | refine blk_drew ?_ | refine blk_alloc ?_ _)); refine blk_put (cs := #[.int .i64 (wrap64 (IntKind.u64.wrap (t243 - (IntKind.u64.wrap (a1))))), .int .u64 0]) ?_ 1 _ rfl; (with_reducible repeat (first | refine blk_drewN ?_ _ | refine blk_drew ?_ | refine blk_alloc ?_ _)); refine blk_put (cs := #[.int .i64 0, .int .u64 0]) ?_ 0 _ rfl; (with_reducible repeat (first | refine blk_drewN ?_ _ | refine blk_drew ?_ | refine blk_alloc ?_ _)); exact BK242.out) Try.underlying84 rfl (by kernel_rfl)) rfl ?_
  exact bF
 ·refine bodyPost_ret (results_cell_row rfl _ _ gb242 84 #[.int .i64 (wrap64 (IntKind.u64.wrap (t243 - (IntKind.u64.wrap (a0))))), .int .u64 t244] (0, 0) _ rfl (by (with_reducible repeat (first | refine blk_drewN ?_ _ | refine blk_drew ?_ | refine blk_alloc ?_ _)); refine blk_put (cs := #[.int .i64 (wrap64 (IntKind.u64.wrap (t243 - (IntKind.u64.wrap (a0))))), .int .u64 0]) ?_ 1 _ rfl; (with_reducible repeat (first | refine blk_drewN ?_ _ | refine blk_drew ?_ | refine blk_alloc ?_ _)); refine blk_put (cs := #[.int .i64 0, .int .u64 0]) ?_ 0 _ rfl; (with_reducible repeat (first | refine blk_drewN ?_ _ | refine blk_drew ?_ | refine blk_alloc ?_ _)); exact BK242.out) Try.underlying84 rfl (by kernel_rfl)) rfl ?_
  exact bF
 refine bodyPost_ret (results_cell_row rfl _ _ gb242 84 #[.int .i64 (wrap64 (t243)), .int .u64 t244] (0, 0) _ rfl (by (with_reducible repeat (first | refine blk_drewN ?_ _ | refine blk_drew ?_ | refine blk_alloc ?_ _)); refine blk_put (cs := #[.int .i64 (wrap64 (t243)), .int .u64 0]) ?_ 1 _ rfl; (with_reducible repeat (first | refine blk_drewN ?_ _ | refine blk_drew ?_ | refine blk_alloc ?_ _)); refine blk_put (cs := #[.int .i64 0, .int .u64 0]) ?_ 0 _ rfl; (with_reducible repeat (first | refine blk_drewN ?_ _ | refine blk_drew ?_ | refine blk_alloc ?_ _)); exact BK242.out) Try.underlying84 rfl (by kernel_rfl)) rfl ?_
 exact bF
/-! ### cmp_isNaN_int64: function 100 -/
def cmp_isNaN_int64.f (a0 : Int) : Option (Bool) := some (a0 != a0)
set_option maxHeartbeats 8000000 in
set_option maxRecDepth 100000 in
theorem cmp_isNaN_int64.calls (a0 : Int) (r : Bool) (w : World) (h : cmp_isNaN_int64.f a0 = some r) :
  Calls Try.prog 100 #[.int .i64 a0] w fun e w' => e = .returned (.bool r) ∧ Drawn0 w w' := by
 have H : (some (a0 != a0)) = some r := h
 clear h
 obtain rfl := Option.some.inj H
 go_enter Try.func100, Try.ntmps100
 go_wp2
 go_ret
 exact bD
/-! ### cmp_Compare_int64: function 95 -/
def cmp_Compare_int64.f (a0 : Int) (a1 : Int) : Option (Int) := (cmp_isNaN_int64.f a0).bind fun t245 => ((cmp_isNaN_int64.f a1).bind fun t246 => (if t245 = true then (if t246 = true then (some 0) else (some (-1))) else (if t246 = true then (some 1) else (if a0 < a1 then (some (-1)) else (if a0 > a1 then (some 1) else (some 0))))))
set_option maxHeartbeats 8000000 in
set_option maxRecDepth 100000 in
theorem cmp_Compare_int64.calls (a0 : Int) (a1 : Int) (r : Int) (w : World) (h : cmp_Compare_int64.f a0 a1 = some r) :
  Calls Try.prog 95 #[.int .i64 a0, .int .i64 a1] w fun e w' => e = .returned (.int .i64 r) ∧ Drawn0 w w' := by
 have H : ((cmp_isNaN_int64.f a0).bind fun t245 => ((cmp_isNaN_int64.f a1).bind fun t246 => (if t245 = true then (if t246 = true then (some 0) else (some (-1))) else (if t246 = true then (some 1) else (if a0 < a1 then (some (-1)) else (if a0 > a1 then (some 1) else (some 0))))))) = some r := h
 clear h
 replace H := Option.bind_eq_some_iff.mp H
 obtain ⟨t245, A30, H⟩ := H
 have A3 := bA A30
 clear A30
 replace H := Option.bind_eq_some_iff.mp H
 obtain ⟨t246, A40, H⟩ := H
 have A4 := bA A40
 clear A40
 by_cases c5 : t245 = true
 subst c5
 rw [if_pos rfl] at H
 by_cases c6 : t246 = true
 subst c6
 rw [if_pos rfl] at H
 obtain rfl := Option.some.inj H
 rotate_left
 replace c6 := Bool.eq_false_iff.mpr c6
 subst c6
 rw [if_neg bn] at H
 obtain rfl := Option.some.inj H
 rotate_left
 replace c5 := Bool.eq_false_iff.mpr c5
 subst c5
 rw [if_neg bn] at H
 by_cases c7 : t246 = true
 subst c7
 rw [if_pos rfl] at H
 obtain rfl := Option.some.inj H
 rotate_left
 replace c7 := Bool.eq_false_iff.mpr c7
 subst c7
 rw [if_neg bn] at H
 by_cases c8 : a0 < a1
 rw [if_pos c8] at H
 have c8b0 : decide (a0 < a1) = true := decide_eq_true c8
 clear c8
 obtain rfl := Option.some.inj H
 rotate_left
 rw [if_neg c8] at H
 have c8b0 : decide (a0 < a1) = false := decide_eq_false c8
 clear c8
 by_cases c9 : a0 > a1
 rw [if_pos c9] at H
 have c9b0 : decide (a1 < a0) = true := decide_eq_true c9
 clear c9
 obtain rfl := Option.some.inj H
 rotate_left
 rw [if_neg c9] at H
 have c9b0 : decide (a1 < a0) = false := decide_eq_false c9
 clear c9
 obtain rfl := Option.some.inj H
 rotate_left
 all_goals go_enter Try.func95, Try.ntmps95
 all_goals go_wp2_with (first | ((first | ((with_reducible refine gate_callee (f := 100) rfl ?_); refine bC (some 8) Try.func100 #[.int .i64 a0] ?_) | go_at_call 100); (with_reducible refine (cmp_isNaN_int64.calls a0 true _ A3.out).mono ?_); rintro e w' ⟨rfl, ⟨nd, rfl⟩⟩; (first | refine ⟨_, rfl, ?_⟩ | skip)) | ((first | ((with_reducible refine gate_callee (f := 100) rfl ?_); refine bC (some 10) Try.func100 #[.int .i64 a1] ?_) | go_at_call 100); (with_reducible refine (cmp_isNaN_int64.calls a1 true _ A4.out).mono ?_); rintro e w' ⟨rfl, ⟨nd, rfl⟩⟩; (first | refine ⟨_, rfl, ?_⟩ | skip)) | ((first | ((with_reducible refine gate_callee (f := 100) rfl ?_); refine bC (some 10) Try.func100 #[.int .i64 a1] ?_) | go_at_call 100); (with_reducible refine (cmp_isNaN_int64.calls a1 false _ A4.out).mono ?_); rintro e w' ⟨rfl, ⟨nd, rfl⟩⟩; (first | refine ⟨_, rfl, ?_⟩ | skip)) | ((first | ((with_reducible refine gate_callee (f := 100) rfl ?_); refine bC (some 8) Try.func100 #[.int .i64 a0] ?_) | go_at_call 100); (with_reducible refine (cmp_isNaN_int64.calls a0 false _ A3.out).mono ?_); rintro e w' ⟨rfl, ⟨nd, rfl⟩⟩; (first | refine ⟨_, rfl, ?_⟩ | skip)))
 all_goals (go_ret; exact bD)
/-! ### cmp_isNaN_uint64: function 101 -/
def cmp_isNaN_uint64.f (a0 : Int) : Option (Bool) := some (a0 != a0)
set_option maxHeartbeats 8000000 in
set_option maxRecDepth 100000 in
theorem cmp_isNaN_uint64.calls (a0 : Int) (r : Bool) (w : World) (h : cmp_isNaN_uint64.f a0 = some r) :
  Calls Try.prog 101 #[.int .u64 a0] w fun e w' => e = .returned (.bool r) ∧ Drawn0 w w' := by
 have H : (some (a0 != a0)) = some r := h
 clear h
 obtain rfl := Option.some.inj H
 go_enter Try.func101, Try.ntmps101
 go_wp2
 go_ret
 exact bD
/-! ### cmp_Compare_uint64: function 96 -/
def cmp_Compare_uint64.f (a0 : Int) (a1 : Int) : Option (Int) := (cmp_isNaN_uint64.f a0).bind fun t247 => ((cmp_isNaN_uint64.f a1).bind fun t248 => (if t247 = true then (if t248 = true then (some 0) else (some (-1))) else (if t248 = true then (some 1) else (if a0 < a1 then (some (-1)) else (if a0 > a1 then (some 1) else (some 0))))))
set_option maxHeartbeats 8000000 in
set_option maxRecDepth 100000 in
theorem cmp_Compare_uint64.calls (a0 : Int) (a1 : Int) (r : Int) (w : World) (h : cmp_Compare_uint64.f a0 a1 = some r) :
  Calls Try.prog 96 #[.int .u64 a0, .int .u64 a1] w fun e w' => e = .returned (.int .i64 r) ∧ Drawn0 w w' := by
 have H : ((cmp_isNaN_uint64.f a0).bind fun t247 => ((cmp_isNaN_uint64.f a1).bind fun t248 => (if t247 = true then (if t248 = true then (some 0) else (some (-1))) else (if t248 = true then (some 1) else (if a0 < a1 then (some (-1)) else (if a0 > a1 then (some 1) else (some 0))))))) = some r := h
 clear h
 replace H := Option.bind_eq_some_iff.mp H
 obtain ⟨t247, A30, H⟩ := H
 have A3 := bA A30
 clear A30
 replace H := Option.bind_eq_some_iff.mp H
 obtain ⟨t248, A40, H⟩ := H
 have A4 := bA A40
 clear A40
 by_cases c5 : t247 = true
 subst c5
 rw [if_pos rfl] at H
 by_cases c6 : t248 = true
 subst c6
 rw [if_pos rfl] at H
 obtain rfl := Option.some.inj H
 rotate_left
 replace c6 := Bool.eq_false_iff.mpr c6
 subst c6
 rw [if_neg bn] at H
 obtain rfl := Option.some.inj H
 rotate_left
 replace c5 := Bool.eq_false_iff.mpr c5
 subst c5
 rw [if_neg bn] at H
 by_cases c7 : t248 = true
 subst c7
 rw [if_pos rfl] at H
 obtain rfl := Option.some.inj H
 rotate_left
 replace c7 := Bool.eq_false_iff.mpr c7
 subst c7
 rw [if_neg bn] at H
 by_cases c8 : a0 < a1
 rw [if_pos c8] at H
 have c8b0 : decide (a0 < a1) = true := decide_eq_true c8
 clear c8
 obtain rfl := Option.some.inj H
 rotate_left
 rw [if_neg c8] at H
 have c8b0 : decide (a0 < a1) = false := decide_eq_false c8
 clear c8
 by_cases c9 : a0 > a1
 rw [if_pos c9] at H
 have c9b0 : decide (a1 < a0) = true := decide_eq_true c9
 clear c9
 obtain rfl := Option.some.inj H
 rotate_left
 rw [if_neg c9] at H
 have c9b0 : decide (a1 < a0) = false := decide_eq_false c9
 clear c9
 obtain rfl := Option.some.inj H
 rotate_left
 all_goals go_enter Try.func96, Try.ntmps96
 all_goals go_wp2_with (first | ((first | ((with_reducible refine gate_callee (f := 101) rfl ?_); refine bC (some 8) Try.func101 #[.int .u64 a0] ?_) | go_at_call 101); (with_reducible refine (cmp_isNaN_uint64.calls a0 true _ A3.out).mono ?_); rintro e w' ⟨rfl, ⟨nd, rfl⟩⟩; (first | refine ⟨_, rfl, ?_⟩ | skip)) | ((first | ((with_reducible refine gate_callee (f := 101) rfl ?_); refine bC (some 10) Try.func101 #[.int .u64 a1] ?_) | go_at_call 101); (with_reducible refine (cmp_isNaN_uint64.calls a1 true _ A4.out).mono ?_); rintro e w' ⟨rfl, ⟨nd, rfl⟩⟩; (first | refine ⟨_, rfl, ?_⟩ | skip)) | ((first | ((with_reducible refine gate_callee (f := 101) rfl ?_); refine bC (some 10) Try.func101 #[.int .u64 a1] ?_) | go_at_call 101); (with_reducible refine (cmp_isNaN_uint64.calls a1 false _ A4.out).mono ?_); rintro e w' ⟨rfl, ⟨nd, rfl⟩⟩; (first | refine ⟨_, rfl, ?_⟩ | skip)) | ((first | ((with_reducible refine gate_callee (f := 101) rfl ?_); refine bC (some 8) Try.func101 #[.int .u64 a0] ?_) | go_at_call 101); (with_reducible refine (cmp_isNaN_uint64.calls a0 false _ A3.out).mono ?_); rintro e w' ⟨rfl, ⟨nd, rfl⟩⟩; (first | refine ⟨_, rfl, ?_⟩ | skip)))
 all_goals (go_ret; exact bD)
/-! ### cmp_Or_int: function 94 -/
def cmp_Or_int.l0 : Nat → Int → List Int → Int → Int → Option (Int)
 | 0, _, _, _, _ => none
 | k + 1, x3, x6, x7, x8 => if x8 < x7 then (if 0 ≤ x8 then (if x8 < (x6.length : Int) then (if (rd x6 x8) = x3 then (cmp_Or_int.l0 k x3 x6 x7 (wrap64 (x8 + 1))) else (some (rd x6 x8))) else (none)) else (none)) else (some x3)
def cmp_Or_int.f (k : Nat) (l0 : List Int) : Option (Int) := cmp_Or_int.l0 k 0 l0 (l0.length : Int) 0
theorem cmp_Or_int.mono_l : ∀ k, (∀ y0 y1 y2 y3, LeO (cmp_Or_int.l0 k y0 y1 y2 y3) (cmp_Or_int.l0 (k + 1) y0 y1 y2 y3))
 | 0 => fun _ _ _ _ r h => by simp [cmp_Or_int.l0] at h
 | k + 1 => by
  have ih0 := cmp_Or_int.mono_l k
  ·intro y0 y1 y2 y3
   unfold cmp_Or_int.l0
   exact bMo
theorem cmp_Or_int.mono : ∀ a0 k, LeO (cmp_Or_int.f k a0) (cmp_Or_int.f (k + 1) a0) := by
 intro a0 k
 have ih0 := cmp_Or_int.mono_l k
 unfold cmp_Or_int.f
 exact bMo
set_option maxHeartbeats 8000000 in
set_option maxRecDepth 100000 in
theorem cmp_Or_int.calls (k : Nat) (A0 : Option Addr) (c0 : Nat) (l0 : List Int) (r : Int) (w : World) (hr0 : Kd.C (Kd.int .i64) w A0 l0.length l0) (hc0 : l0.length ≤ c0) (h : cmp_Or_int.f k l0 = some r) :
  Calls Try.prog 94 #[.slice A0 l0.length c0] w fun e w' => e = .returned (.int .i64 r) ∧ Drawn0 w w' := by
 have HR0 := bA hr0
 have HC0 := bA hc0
 clear hr0 hc0
 have H : (cmp_Or_int.l0 k 0 l0 (l0.length : Int) 0) = some r := h
 clear h
 have H' := bA H
 clear H
 go_enter Try.func94, Try.ntmps94
 go_wp2
 go_loopg [8] k (fun kq v8 w' => ∃ (x8_1 : Int), v8 = .int .i64 x8_1 ∧ Aside0 (cmp_Or_int.l0 kq 0 l0 (l0.length : Int) x8_1 = some r) ∧ Aside0 (kq ≤ k) ∧ Drawn0 w w')
 case atStart => exact ⟨(0), bs, H', ⟨Nat.le_refl _⟩, by repeat (first | exact Drawn0.refl _ | apply Drawn0.step)⟩
 clear H'
 obtain ⟨x8_1, rfl, HA, HK1, ⟨m1, rfl⟩⟩ := hrel
 cases gk with
 | zero => exact absurd HA.out (by simp [cmp_Or_int.l0])
 | succ k1 =>
  have H := HA.out
  clear HA
  simp only [cmp_Or_int.l0] at H
  by_cases c2 : x8_1 < (l0.length : Int)
  rw [if_pos c2] at H
  have c2b0 : decide (x8_1 < (l0.length : Int)) = true := decide_eq_true c2
  clear c2
  by_cases c3 : 0 ≤ x8_1
  rw [if_pos c3] at H
  have c3b0 : decide (0 ≤ x8_1) = true := decide_eq_true c3
  clear c3
  by_cases c4 : x8_1 < (l0.length : Int)
  rw [if_pos c4] at H
  have c4b0 : decide (x8_1 < (l0.length : Int)) = true := decide_eq_true c4
  clear c4
  by_cases c5 : (rd l0 x8_1) = 0
  rw [if_pos c5] at H
  have c5b0 : ((rd l0 x8_1) == 0) = true := beq_iff_eq.mpr c5
  have c5b1 : ((rd l0 x8_1) != 0) = false := bne_eq_false_iff_eq.mpr c5
  clear c5
  have H' := bA H
  clear H
  have p249 : 0 ≤ (x8_1 : Int) := bo
  have q249 : x8_1 < (l0.length : Int) := bo
  obtain ⟨ad249, e249, hx249_0⟩ := Kd.at_int HR0.out x8_1 p249 q249
  cases e249
  replace p249 := eq_true p249
  replace q249 := eq_true q249
  rotate_left
  rw [if_neg c5] at H
  have c5b0 : ((rd l0 x8_1) == 0) = false := beq_eq_false_iff_ne.mpr c5
  have c5b1 : ((rd l0 x8_1) != 0) = true := bne_iff_ne.mpr c5
  obtain rfl := Option.some.inj H
  have p249 : 0 ≤ (x8_1 : Int) := bo
  have q249 : x8_1 < (l0.length : Int) := bo
  obtain ⟨ad249, e249, hx249_0⟩ := Kd.at_int HR0.out x8_1 p249 q249
  cases e249
  replace p249 := eq_true p249
  replace q249 := eq_true q249
  rotate_left
  rw [if_neg c4] at H
  exact absurd H (by simp)
  rw [if_neg c3] at H
  exact absurd H (by simp)
  rw [if_neg c2] at H
  have c2b0 : decide (x8_1 < (l0.length : Int)) = false := decide_eq_false c2
  clear c2
  obtain rfl := Option.some.inj H
  rotate_left
  all_goals go_wp2
  ·go_roundg k1
   case measure => have := HK1.out; omega
   case rel => exact ⟨(wrap64 (x8_1 + 1)), bs, H', ⟨by have := HK1.out; omega⟩, by repeat (first | exact Drawn0.refl _ | apply Drawn0.step)⟩
  ·go_ret
   exact bD
  go_ret
  exact bD
/-! ### wide_Wide_Cmp: function 85 -/
def wide_Wide_Cmp.f (k : Nat) (a0_0 : Int) (a0_1 : Int) (a1_0 : Int) (a1_1 : Int) : Option (Int) := (cmp_Compare_int64.f a0_0 a1_0).bind fun t252 => ((cmp_Compare_uint64.f a0_1 a1_1).bind fun t253 => ((cmp_Or_int.f k (([t252, t253] : List Int))).bind fun t257 => (some t257)))
theorem wide_Wide_Cmp.mono : ∀ a0 a1 a2 a3 k, LeO (wide_Wide_Cmp.f k a0 a1 a2 a3) (wide_Wide_Cmp.f (k + 1) a0 a1 a2 a3) := by
 intro a0 a1 a2 a3 k
 unfold wide_Wide_Cmp.f
 have m0_ := @cmp_Or_int.mono
 exact bMo
def wide_Wide_Cmp.T1 : Bool × List (List Nat × List Nat) := (true, [([], []), ([0], [0]), ([], []), ([2], [2]), ([1, 3], [1, 3]), ([], []), ([5], [5]), ([], []), ([7], [7]), ([6, 8, 4], [6, 8]), ([4, 9], [4, 9]), ([10, 9], [10]), ([11, 11, 0, 1, 2, 3, 4, 5, 6, 7, 8, 9, 10, 11], [11])])
def wide_Wide_Cmp.B1 : List Nat := [0, 1, 0, 4, 15, 0, 32, 0, 128, 511, 1023, 2047, 4095]
theorem wide_Wide_Cmp.tab1 : rtab .any (opsOf Try.f85 1) = wide_Wide_Cmp.T1 := by kernel_rfl
theorem wide_Wide_Cmp.bits1 : waitsOk wide_Wide_Cmp.T1.2 wide_Wide_Cmp.B1 = true := by kernel_rfl
set_option maxHeartbeats 8000000 in
set_option maxRecDepth 100000 in
theorem wide_Wide_Cmp.calls (k : Nat) (a0_0 : Int) (a0_1 : Int) (a1_0 : Int) (a1_1 : Int) (r : Int) (w : World) (h : wide_Wide_Cmp.f k a0_0 a0_1 a1_0 a1_1 = some r) :
  Calls Try.prog 85 #[.agg #[.int .i64 a0_0, .int .u64 a0_1], .agg #[.int .i64 a1_0, .int .u64 a1_1]] w fun e w' => e = .returned (.int .i64 r) ∧ Below w.heap.size w w' := by
 have hu84 := Try.underlying84
 have HB := bA (Below.refl w.heap.size w)
 have H : ((cmp_Compare_int64.f a0_0 a1_0).bind fun t252 => ((cmp_Compare_uint64.f a0_1 a1_1).bind fun t253 => ((cmp_Or_int.f k (([t252, t253] : List Int))).bind fun t257 => (some t257)))) = some r := h
 clear h
 replace H := Option.bind_eq_some_iff.mp H
 obtain ⟨t252, A30, H⟩ := H
 have A3 := bA A30
 clear A30
 replace H := Option.bind_eq_some_iff.mp H
 obtain ⟨t253, A40, H⟩ := H
 have A4 := bA A40
 clear A40
 obtain ⟨y254, hy254⟩ : ∃ y_ : List Int, y_ = (([t252, t253] : List Int)) := ⟨_, rfl⟩
 replace H : ((cmp_Or_int.f k y254).bind fun t257 => (some t257)) = some r := by first | (rw [hy254]; with_reducible exact H) | (have H2_ := (Option.bind_some _ _).symm.trans H; rw [hy254]; with_reducible exact H2_) | (have H2_ := (Option.bind_some _ _).symm.trans H; with_reducible exact H2_) | with_reducible exact H | (rw [hy254]; exact H) | exact H
 have Ny254 := bA hy254
 clear hy254
 replace H := Option.bind_eq_some_iff.mp H
 obtain ⟨t257, A50, H⟩ := H
 have A5 := bA A50
 clear A50
 obtain rfl := Option.some.inj H
 go_enter Try.func85, Try.ntmps85
 try go_wp2_with (first | ((with_reducible refine gate_dst (N := 2) rfl ?_); refine bE (N := 2) (cs := #[.int .i64 a0_0, .int .u64 a0_1]) (t := 84) ?_; intro gb250 hg w6 hbox hb; have BK250 := bA (hbox); have GW250 := bA (bZ hg); have GE250 := bA (bZ hg); replace HB := bA (bS hb); clear hb hbox hg) | ((with_reducible refine gate_dst (N := 3) rfl ?_); refine bE (N := 3) (cs := #[.int .i64 a1_0, .int .u64 a1_1]) (t := 84) ?_; intro gb251 hg w7 hbox hb; have BK251 := bA (hbox); have GW251 := bA (bZ hg); have GE251 := bA (bZ hg); have NB250_251 := bA (bL BK250 hg); have NB251_250 := bA (bG BK250 hg); replace BK250 := bA (bB BK250 hb); replace HB := bA (bS hb); clear hb hbox hg))
 replace BK250 := bA (blk_drew BK250.out)
 replace BK251 := bA (blk_drew BK251.out)
 replace HB := bA (below_drew1 HB.out)
 refine start_ (n := 13) (S := fun w' => w'.cell? ⟨gb250, 0, none⟩ = some (.int .i64 a0_0) ∧ w'.cell? ⟨gb250, 1, none⟩ = some (.int .u64 a0_1) ∧ w'.cell? ⟨gb251, 0, none⟩ = some (.int .i64 a1_0) ∧ w'.cell? ⟨gb251, 1, none⟩ = some (.int .u64 a1_1)) (ds := []) #[false,false,false,false,false,false,false,false,false,false,false,false,false] (by kernel_rfl) rfl rfl ⟨bq BK250 0, bq BK250 1, bq BK251 0, bq BK251 1⟩ (fun hHeld => ?_); refine with_tabW wide_Wide_Cmp.tab1 wide_Wide_Cmp.bits1 (fun HT_ HW_ => ?_)
 generalize w7.drew = w8 at BK250 BK251 HB hHeld ⊢
 refine bU (i := 0) (N := some 5) ?_
 refine bU (i := 2) (N := some 7) ?_
 refine bU (i := 5) (N := some 10) ?_
 refine bU (i := 7) (N := some 12) ?_
 refine bW (i := 1) (N := some 6) hHeld ?_
 refine bW (i := 3) (N := some 8) hHeld ?_
 refine bW (i := 6) (N := some 11) hHeld ?_
 refine bW (i := 8) (N := some 13) hHeld ?_
 refine one_ (i := 4) (N := some 9) #[true,true,true,true,true,true,true,true,true,false,false,false,false] rfl rfl (one_of HT_.out (by kernel_rfl)) (by decide) (fun K hK => ?_)
 refine goes_ Try.func95 (by kernel_rfl) rfl #[.int .i64 a0_0, .int .i64 a1_0] (by rfl) rfl rfl (by (try simp only [List.map_toArray, List.map_cons, List.map_nil]); first | done | rfl | (simp only [List.length_drop, List.length_take]; rfl)) ?_
 with_reducible refine (cmp_Compare_int64.calls a0_0 a1_0 t252 _ A3.out).mono ?_
 rintro e w' ⟨rfl, ⟨nd, rfl⟩⟩
 refine ⟨_, rfl, ?_⟩
 refine hK.out _ _ ⟨bq BK250 0, bq BK250 1, bq BK251 0, bq BK251 1⟩ (fun hHeld => ?_)
 clear hK K
 refine bI 9 ?_
 refine one_ (i := 9) (N := some 14) #[true,true,true,true,true,true,true,true,true,true,false,false,false] rfl rfl (one_of HT_.out (by kernel_rfl)) (by decide) (fun K hK => ?_)
 refine goes_ Try.func96 (by kernel_rfl) rfl #[.int .u64 a0_1, .int .u64 a1_1] (by rfl) rfl rfl (by (try simp only [List.map_toArray, List.map_cons, List.map_nil]); first | done | rfl | (simp only [List.length_drop, List.length_take]; rfl)) ?_
 with_reducible refine (cmp_Compare_uint64.calls a0_1 a1_1 t253 _ A4.out).mono ?_
 rintro e w' ⟨rfl, ⟨nd, rfl⟩⟩
 refine ⟨_, rfl, ?_⟩
 refine hK.out _ _ ⟨bq BK250 0, bq BK250 1, bq BK251 0, bq BK251 1⟩ (fun hHeld => ?_)
 clear hK K
 refine bI 14 ?_
 refine one_ (i := 10) (N := some 15) #[true,true,true,true,true,true,true,true,true,true,true,false,false] rfl rfl (one_of HT_.out (by kernel_rfl)) (by decide) (fun K hK => ?_)
 refine Kd.R_lit_step (Kd.int .i64) _ 3 ?hg (N := 15) ?hd (xs := ([t252, t253] : List Int)) (inner := [.int .i64 t252, .int .i64 t253]) (ok := fun _ => True) (okp := fun _ => True) ?hr ?hp (fun _ hk => hk) trivial (Below.refl _ _) (Nat.le_refl _) (by simp) ?_; (case hd => rfl); (case hg => rfl); (case hr => first | (go_simp; done) | (go_simp; rfl)); (case hp => exact (Reps.one (show Kd.M (Kd.int .i64) _ _ _ t252 [.int .i64 t252] from rfl) (Reps.one (show Kd.M (Kd.int .i64) _ _ _ t253 [.int .i64 t253] from rfl) (Reps.none _ _))))
 intro v255 w9 ho10 hb hg_ hnew_
 clear hg_ hnew_
 (first | rw [← Ny254.out] at ho10 | (simp only [Int.reduceToNat] at ho10; rw [← Ny254.out] at ho10))
 have HO256 := bA (Kd.R_lower ho10 bY)
 replace BK250 := bA (bB BK250 hb)
 replace BK251 := bA (bB BK251 hb)
 replace HB := bA (bS hb)
 clear hb ho10
 obtain ⟨Ao11, co11, eo11⟩ := Kd.R_slice HO256.out
 (first | subst eo11 | (injection eo11 with f1_ f2_ f3_; have f4_ := f1_.symm; have f5_ := f3_.symm; clear f1_ f2_ f3_; subst f4_; subst f5_))
 refine hK.out _ _ ⟨bq BK250 0, bq BK250 1, bq BK251 0, bq BK251 1⟩ (fun hHeld => ?_)
 clear hK K
 refine bI 15 ?_
 refine one_ (i := 11) (N := some 16) #[true,true,true,true,true,true,true,true,true,true,true,true,false] rfl rfl (one_of HT_.out (by kernel_rfl)) (by decide) (fun K hK => ?_)
 refine goes_ Try.func94 (by kernel_rfl) rfl #[.slice Ao11 y254.length co11] (by rfl) rfl rfl (by (try simp only [List.map_toArray, List.map_cons, List.map_nil]); first | done | rfl | (simp only [List.length_drop, List.length_take]; rfl)) ?_
 with_reducible refine (cmp_Or_int.calls k _ _ y254 t257 _ ?side1 ?side2 A5.out).mono ?_
 (case side1 => repeat (first | exact (Kd.R_reads' HO256.out).2.2 | (with_reducible refine Kd.C_alloc ?_ _) | (with_reducible refine Kd.C_drewN ?_ _) | (with_reducible refine Kd.C_drew ?_)))
 (case side2 => exact (Kd.R_reads' HO256.out).2.1)
 rintro e w' ⟨rfl, ⟨nd, rfl⟩⟩
 refine ⟨_, rfl, ?_⟩
 refine hK.out _ _ ⟨bq BK250 0, bq BK250 1, bq BK251 0, bq BK251 1⟩ (fun hHeld => ?_)
 clear hK K
 refine bI 16 ?_
 refine bU (i := 12) (N := some 4) ?_
 refine done_ (done_of HT_.out (by kernel_rfl)) ?_
 try go_wp2
 go_ret
 exact bF
end Go.Proofs.Ytfeekdoakoabeaa.G
