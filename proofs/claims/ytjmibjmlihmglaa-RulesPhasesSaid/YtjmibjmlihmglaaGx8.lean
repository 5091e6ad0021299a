-- Written by a program of this session out of the translation; Lean checks it.
import Derived.Test.YtjmibjmlihmglaaGx0
import Derived.Test.YtjmibjmlihmglaaGx3
import Derived.Test.YtjmibjmlihmglaaGx7
namespace Go.Proofs.Ytjmibjmlihmglaa.G
open Go.RowKit Go.Proofs.YtjmibjmlihmglaaW.PrintWords Go.Proofs.YtjmibjmlihmglaaW.PrintLast Go.Proofs.YtjmibjmlihmglaaW.PrintMore
attribute [local go_sem] max2_int min2_int max_two min_two max_three min_three max_four min_four   -- for this text's walks alone
set_option linter.unusedVariables false
set_option linter.unusedSimpArgs false

/-! ### slices_IndexFunc_Point_F_poly_far: function 1000007 -/
def slices_IndexFunc_Point_F_poly_far.l0 : Nat → List (S41) → Int → Int → Option (Int)
 | 0, _, _, _ => none
 | k + 1, x0, x7, x8 => if x8 < x7 then (if 0 ≤ x8 then (if x8 < (x0.length : Int) then ((poly_far.f ((rd_T41 x0 x8).f0) ((rd_T41 x0 x8).f1)).bind fun t232 => (if t232 = true then (some x8) else (slices_IndexFunc_Point_F_poly_far.l0 k x0 x7 (wrap64 (x8 + 1))))) else (none)) else (none)) else (some (-1))
def slices_IndexFunc_Point_F_poly_far.f (k : Nat) (l0 : List (S41))  : Option (Int) := slices_IndexFunc_Point_F_poly_far.l0 k l0 (l0.length : Int) 0
theorem slices_IndexFunc_Point_F_poly_far.mono_l : ∀ k, (∀ y0 y1 y2, LeO (slices_IndexFunc_Point_F_poly_far.l0 k y0 y1 y2) (slices_IndexFunc_Point_F_poly_far.l0 (k + 1) y0 y1 y2))
 | 0 => fun _ _ _ r h => by simp [slices_IndexFunc_Point_F_poly_far.l0] at h
 | k + 1 => by
  have ih0 := slices_IndexFunc_Point_F_poly_far.mono_l k
  ·intro y0 y1 y2
   unfold slices_IndexFunc_Point_F_poly_far.l0
   exact bMo
theorem slices_IndexFunc_Point_F_poly_far.mono : ∀ a0 k, LeO (slices_IndexFunc_Point_F_poly_far.f k a0) (slices_IndexFunc_Point_F_poly_far.f (k + 1) a0) := by
 intro a0 k
 have ih0 := slices_IndexFunc_Point_F_poly_far.mono_l k
 unfold slices_IndexFunc_Point_F_poly_far.f
 exact bMo
set_option maxHeartbeats 8000000 in
set_option maxRecDepth 100000 in
theorem slices_IndexFunc_Point_F_poly_far.calls (k : Nat) (A0 : Option Addr) (c0 : Nat) (l0 : List (S41))  (r : Int) (w : World) (hr0 : Kd.C k41 w A0 l0.length l0) (hc0 : l0.length ≤ c0) (h : slices_IndexFunc_Point_F_poly_far.f k l0 = some r) :
  Calls Try.prog 102 #[.slice A0 l0.length c0, .func (.func 72) #[] #[]] w fun e w' => e = .returned (.int .i64 r) ∧ Below w.heap.size w w' := by
 have hu41 := Try.underlying41
 have HR0 := bA hr0
 have HC0 := bA hc0
 clear hr0 hc0
 have HB := bA (Below.refl w.heap.size w)
 have H : (slices_IndexFunc_Point_F_poly_far.l0 k l0 (l0.length : Int) 0) = some r := h
 clear h
 have H' := bA H
 clear H
 go_enter Try.func102, Try.ntmps102
 go_wp2
 go_loopg [8] k (fun kq v8 w' => ∃ (x8_1 : Int), v8 = .int .i64 x8_1 ∧ Aside0 (slices_IndexFunc_Point_F_poly_far.l0 kq l0 (l0.length : Int) x8_1 = some r) ∧ Aside0 (kq ≤ k) ∧ Aside0 (Below w.heap.size w w'))
 case atStart => exact ⟨(0), bs, H', ⟨Nat.le_refl _⟩, ⟨bX⟩⟩
 clear H'
 try clear c1
 try clear p2
 obtain ⟨x8_1, rfl, HA, HK1, HB⟩ := hrel
 cases gk with
 | zero => exact absurd HA.out (by simp [slices_IndexFunc_Point_F_poly_far.l0])
 | succ k1 =>
  have H := HA.out
  clear HA
  simp only [slices_IndexFunc_Point_F_poly_far.l0] at H
  by_cases c3 : x8_1 < (l0.length : Int)
  rw [if_pos c3] at H
  have c3b0 : decide (x8_1 < (l0.length : Int)) = true := decide_eq_true c3
  clear c3
  by_cases c4 : 0 ≤ x8_1
  rw [if_pos c4] at H
  have c4b0 : decide (0 ≤ x8_1) = true := decide_eq_true c4
  clear c4
  by_cases c5 : x8_1 < (l0.length : Int)
  rw [if_pos c5] at H
  have c5b0 : decide (x8_1 < (l0.length : Int)) = true := decide_eq_true c5
  clear c5
  replace H := Option.bind_eq_some_iff.mp H
  obtain ⟨t232, A60, H⟩ := H
  have A6 := bA A60
  clear A60
  by_cases c7 : t232 = true
  subst c7
  rw [if_pos rfl] at H
  obtain rfl := Option.some.inj H
  have p231 : 0 ≤ (x8_1 : Int) := bo
  have q231 : x8_1 < (l0.length : Int) := bo
  obtain ⟨ad231, e231, hx231_0, hx231_1⟩ := at_T41 HR0.out x8_1 p231 q231
  cases e231
  replace hx231_0 := bK hx231_0
  replace hx231_1 := bK hx231_1
  replace p231 := eq_true p231
  replace q231 := eq_true q231
  rotate_left
  replace c7 := Bool.eq_false_iff.mpr c7
  subst c7
  rw [if_neg bn] at H
  have H' := bA H
  clear H
  have p231 : 0 ≤ (x8_1 : Int) := bo
  have q231 : x8_1 < (l0.length : Int) := bo
  obtain ⟨ad231, e231, hx231_0, hx231_1⟩ := at_T41 HR0.out x8_1 p231 q231
  cases e231
  replace hx231_0 := bK hx231_0
  replace hx231_1 := bK hx231_1
  replace p231 := eq_true p231
  replace q231 := eq_true q231
  rotate_left
  rw [if_neg c5] at H
  exact absurd H (by simp)
  rw [if_neg c4] at H
  exact absurd H (by simp)
  rw [if_neg c3] at H
  have c3b0 : decide (x8_1 < (l0.length : Int)) = false := decide_eq_false c3
  clear c3
  obtain rfl := Option.some.inj H
  rotate_left
  all_goals go_wp2_with (first | (go_at_call 72; (with_reducible refine (poly_far.calls ((rd_T41 l0 x8_1).f0) ((rd_T41 l0 x8_1).f1) true _ A6.out).mono ?_); rintro e wz0 ⟨rfl, hb⟩; replace HB := bA (bS hb); (try clear hb)) | (go_at_call 72; (with_reducible refine (poly_far.calls ((rd_T41 l0 x8_1).f0) ((rd_T41 l0 x8_1).f1) false _ A6.out).mono ?_); rintro e wz0 ⟨rfl, hb⟩; replace HB := bA (bS hb); (try clear hb)))
  ·go_ret
   exact bF
  ·go_roundg k1
   case measure => have := HK1.out; omega
   case rel => exact ⟨(wrap64 (x8_1 + 1)), bs, H', ⟨by have := HK1.out; omega⟩, ⟨bX⟩⟩
  go_ret
  exact bF
/-! ### slices_ContainsFunc_Point_F_poly_far: function 1000002 -/
def slices_ContainsFunc_Point_F_poly_far.f (k : Nat) (l0 : List (S41))  : Option (Bool) := (slices_IndexFunc_Point_F_poly_far.f k l0).bind fun t233 => (some (decide (t233 ≥ 0)))
theorem slices_ContainsFunc_Point_F_poly_far.mono : ∀ a0 k, LeO (slices_ContainsFunc_Point_F_poly_far.f k a0) (slices_ContainsFunc_Point_F_poly_far.f (k + 1) a0) := by
 intro a0 k
 unfold slices_ContainsFunc_Point_F_poly_far.f
 have m0_ := @slices_IndexFunc_Point_F_poly_far.mono
 exact bMo
set_option maxHeartbeats 8000000 in
set_option maxRecDepth 100000 in
theorem slices_ContainsFunc_Point_F_poly_far.calls (k : Nat) (A0 : Option Addr) (c0 : Nat) (l0 : List (S41))  (r : Bool) (w : World) (hr0 : Kd.C k41 w A0 l0.length l0) (hc0 : l0.length ≤ c0) (h : slices_ContainsFunc_Point_F_poly_far.f k l0 = some r) :
  Calls Try.prog 65 #[.slice A0 l0.length c0, .func (.func 72) #[] #[]] w fun e w' => e = .returned (.bool r) ∧ Below w.heap.size w w' := by
 have HR0 := bA hr0
 have HC0 := bA hc0
 clear hr0 hc0
 have HB := bA (Below.refl w.heap.size w)
 have H : ((slices_IndexFunc_Point_F_poly_far.f k l0).bind fun t233 => (some (decide (t233 ≥ 0)))) = some r := h
 clear h
 replace H := Option.bind_eq_some_iff.mp H
 obtain ⟨t233, A30, H⟩ := H
 have A3 := bA A30
 clear A30
 obtain rfl := Option.some.inj H
 go_enter Try.func65, Try.ntmps65
 go_wp2_with (first | ((first | ((with_reducible refine gate_callee (f := 102) rfl ?_); refine bC (some 7) Try.func102 #[.slice A0 l0.length c0, .func (.func 72) #[] #[]] ?_) | go_at_call 102); (with_reducible refine (slices_IndexFunc_Point_F_poly_far.calls k _ _ l0  t233 _ ?side1 ?side2 A3.out).mono ?_); (case side1 => repeat (first | exact HR0.out | (with_reducible refine Kd.C_alloc ?_ _) | (with_reducible refine Kd.C_drewN ?_ _) | (with_reducible refine Kd.C_drew ?_))); (case side2 => exact HC0.out); rintro e w4 ⟨rfl, hb⟩; (first | refine ⟨_, rfl, ?_⟩ | skip); replace HB := bA (bS hb); (try clear hb)))
 go_ret
 exact bF
/-! ### poly_Right: function 31 -/
def poly_Right.f (k : Nat) (l0 : List (S41)) : Option (Bool) := (poly_Simple.f k l0).bind fun t234 => (if t234 = true then ((slices_ContainsFunc_Point_F_poly_far.f k l0).bind fun t235 => (some (!t235))) else (some false))
theorem poly_Right.mono : ∀ a0 k, LeO (poly_Right.f k a0) (poly_Right.f (k + 1) a0) := by
 intro a0 k
 unfold poly_Right.f
 have m0_ := @poly_Simple.mono
 have m1_ := @slices_ContainsFunc_Point_F_poly_far.mono
 exact bMo
set_option maxHeartbeats 8000000 in
set_option maxRecDepth 100000 in
theorem poly_Right.calls (k : Nat) (A0 : Option Addr) (c0 : Nat) (l0 : List (S41)) (r : Bool) (w : World) (hr0 : Kd.C k41 w A0 l0.length l0) (hc0 : l0.length ≤ c0) (h : poly_Right.f k l0 = some r) :
  Calls Try.prog 31 #[.slice A0 l0.length c0] w fun e w' => e = .returned (.bool r) ∧ Below w.heap.size w w' := by
 have HR0 := bA hr0
 have HC0 := bA hc0
 clear hr0 hc0
 have HB := bA (Below.refl w.heap.size w)
 have H : ((poly_Simple.f k l0).bind fun t234 => (if t234 = true then ((slices_ContainsFunc_Point_F_poly_far.f k l0).bind fun t235 => (some (!t235))) else (some false))) = some r := h
 clear h
 replace H := Option.bind_eq_some_iff.mp H
 obtain ⟨t234, A20, H⟩ := H
 have A2 := bA A20
 clear A20
 by_cases c3 : t234 = true
 subst c3
 rw [if_pos rfl] at H
 replace H := Option.bind_eq_some_iff.mp H
 obtain ⟨t235, A40, H⟩ := H
 have A4 := bA A40
 clear A40
 obtain rfl := Option.some.inj H
 rotate_left
 replace c3 := Bool.eq_false_iff.mpr c3
 subst c3
 rw [if_neg bn] at H
 obtain rfl := Option.some.inj H
 rotate_left
 all_goals go_enter Try.func31, Try.ntmps31
 all_goals go_wp2_with (first | ((first | ((with_reducible refine gate_callee (f := 29) rfl ?_); refine bC (some 4) Try.func29 #[.slice A0 l0.length c0] ?_) | go_at_call 29); (with_reducible refine (poly_Simple.calls k _ _ l0 true _ ?side1 ?side2 A2.out).mono ?_); (case side1 => repeat (first | exact HR0.out | (with_reducible refine Kd.C_alloc ?_ _) | (with_reducible refine Kd.C_drewN ?_ _) | (with_reducible refine Kd.C_drew ?_))); (case side2 => exact HC0.out); rintro e wz0 ⟨rfl, hb⟩; (first | refine ⟨_, rfl, ?_⟩ | skip); replace HB := bA (bS hb); (try clear hb)) | (go_at_call 65; (with_reducible refine (slices_ContainsFunc_Point_F_poly_far.calls k _ _ l0  t235 _ ?side1 ?side2 A4.out).mono ?_); (case side1 => exact bQ HR0); (case side2 => exact HC0.out); rintro e wz1 ⟨rfl, hb⟩; replace HB := bA (bS hb); (try clear hb)) | ((first | ((with_reducible refine gate_callee (f := 29) rfl ?_); refine bC (some 4) Try.func29 #[.slice A0 l0.length c0] ?_) | go_at_call 29); (with_reducible refine (poly_Simple.calls k _ _ l0 false _ ?side1 ?side2 A2.out).mono ?_); (case side1 => repeat (first | exact HR0.out | (with_reducible refine Kd.C_alloc ?_ _) | (with_reducible refine Kd.C_drewN ?_ _) | (with_reducible refine Kd.C_drew ?_))); (case side2 => exact HC0.out); rintro e wz0 ⟨rfl, hb⟩; (first | refine ⟨_, rfl, ?_⟩ | skip); replace HB := bA (bS hb); (try clear hb)))
 all_goals (go_ret; exact bF)
/-! ### rules_within_int64: function 61 -/
def rules_within_int64.f (a0 : Int) (a1 : Int) (a2 : Int) : Option (Bool) := if a0 ≥ a1 then (some (decide (a0 ≤ a2))) else (some false)
set_option maxHeartbeats 8000000 in
set_option maxRecDepth 100000 in
theorem rules_within_int64.calls (a0 : Int) (a1 : Int) (a2 : Int) (r : Bool) (w : World) (h : rules_within_int64.f a0 a1 a2 = some r) :
  Calls Try.prog 61 #[.int .i64 a0, .int .i64 a1, .int .i64 a2] w fun e w' => e = .returned (.bool r) ∧ Drawn0 w w' := by
 have H : (if a0 ≥ a1 then (some (decide (a0 ≤ a2))) else (some false)) = some r := h
 clear h
 by_cases c4 : a0 ≥ a1
 rw [if_pos c4] at H
 have c4b0 : decide (a1 ≤ a0) = true := decide_eq_true c4
 clear c4
 obtain rfl := Option.some.inj H
 rotate_left
 rw [if_neg c4] at H
 have c4b0 : decide (a1 ≤ a0) = false := decide_eq_false c4
 clear c4
 obtain rfl := Option.some.inj H
 rotate_left
 all_goals go_enter Try.func61, Try.ntmps61
 all_goals go_wp2
 all_goals (go_ret; exact bD)
/-! ### rules_RightPhase: function 22 -/
def rules_RightPhase.f (k : Nat) (l0_0 : List (S41)) (a0_1 : Int) (a0_2 : Int) (a0_3 : Int) (a0_4 : Int) : Option (Bool) := (poly_Right.f k l0_0).bind fun t237 => (if t237 = true then ((rules_within_int64.f a0_1 1 100).bind fun t238 => (if t238 = true then ((rules_within_int64.f a0_2 1 65536).bind fun t239 => (if t239 = true then ((rules_within_int.f a0_3 1 1000000).bind fun t240 => (if t240 = true then ((rules_within_int64.f a0_4 0 1073741824).bind fun t241 => (some t241)) else (some false))) else (some false))) else (some false))) else (some false))
theorem rules_RightPhase.mono : ∀ a0 a1 a2 a3 a4 k, LeO (rules_RightPhase.f k a0 a1 a2 a3 a4) (rules_RightPhase.f (k + 1) a0 a1 a2 a3 a4) := by
 intro a0 a1 a2 a3 a4 k
 unfold rules_RightPhase.f
 have m0_ := @poly_Right.mono
 exact bMo
set_option maxHeartbeats 8000000 in
set_option maxRecDepth 100000 in
theorem rules_RightPhase.calls (k : Nat) (A0_0 : Option Addr) (c0_0 : Nat) (l0_0 : List (S41)) (a0_1 : Int) (a0_2 : Int) (a0_3 : Int) (a0_4 : Int) (r : Bool) (w : World) (hr0_0 : Kd.C k41 w A0_0 l0_0.length l0_0) (hc0_0 : l0_0.length ≤ c0_0) (h : rules_RightPhase.f k l0_0 a0_1 a0_2 a0_3 a0_4 = some r) :
  Calls Try.prog 22 #[.agg #[.slice A0_0 l0_0.length c0_0, .int .i64 a0_1, .int .i64 a0_2, .int .i64 a0_3, .int .i64 a0_4]] w fun e w' => e = .returned (.bool r) ∧ Below w.heap.size w w' := by
 have hu30 := Try.underlying30
 have HR0_0 := bA hr0_0
 have HC0_0 := bA hc0_0
 clear hr0_0 hc0_0
 have HB := bA (Below.refl w.heap.size w)
 have H : ((poly_Right.f k l0_0).bind fun t237 => (if t237 = true then ((rules_within_int64.f a0_1 1 100).bind fun t238 => (if t238 = true then ((rules_within_int64.f a0_2 1 65536).bind fun t239 => (if t239 = true then ((rules_within_int.f a0_3 1 1000000).bind fun t240 => (if t240 = true then ((rules_within_int64.f a0_4 0 1073741824).bind fun t241 => (some t241)) else (some false))) else (some false))) else (some false))) else (some false))) = some r := h
 clear h
 replace H := Option.bind_eq_some_iff.mp H
 obtain ⟨t237, A20, H⟩ := H
 have A2 := bA A20
 clear A20
 by_cases c3 : t237 = true
 subst c3
 rw [if_pos rfl] at H
 replace H := Option.bind_eq_some_iff.mp H
 obtain ⟨t238, A40, H⟩ := H
 have A4 := bA A40
 clear A40
 by_cases c5 : t238 = true
 subst c5
 rw [if_pos rfl] at H
 replace H := Option.bind_eq_some_iff.mp H
 obtain ⟨t239, A60, H⟩ := H
 have A6 := bA A60
 clear A60
 by_cases c7 : t239 = true
 subst c7
 rw [if_pos rfl] at H
 replace H := Option.bind_eq_some_iff.mp H
 obtain ⟨t240, A80, H⟩ := H
 have A8 := bA A80
 clear A80
 by_cases c9 : t240 = true
 subst c9
 rw [if_pos rfl] at H
 replace H := Option.bind_eq_some_iff.mp H
 obtain ⟨t241, A100, H⟩ := H
 have A10 := bA A100
 clear A100
 obtain rfl := Option.some.inj H
 rotate_left
 replace c9 := Bool.eq_false_iff.mpr c9
 subst c9
 rw [if_neg bn] at H
 obtain rfl := Option.some.inj H
 rotate_left
 replace c7 := Bool.eq_false_iff.mpr c7
 subst c7
 rw [if_neg bn] at H
 obtain rfl := Option.some.inj H
 rotate_left
 replace c5 := Bool.eq_false_iff.mpr c5
 subst c5
 rw [if_neg bn] at H
 obtain rfl := Option.some.inj H
 rotate_left
 replace c3 := Bool.eq_false_iff.mpr c3
 subst c3
 rw [if_neg bn] at H
 obtain rfl := Option.some.inj H
 rotate_left
 all_goals go_enter Try.func22, Try.ntmps22
 all_goals go_wp2_with (first | ((with_reducible refine gate_dst (N := 1) rfl ?_); refine bE (N := 1) (cs := #[.slice A0_0 l0_0.length c0_0, .int .i64 a0_1, .int .i64 a0_2, .int .i64 a0_3, .int .i64 a0_4]) (t := 30) ?_; intro gb236 hg wz0 hbox hb; have BK236 := bA (hbox); have GW236 := bA (bZ hg); have GE236 := bA (bZ hg); replace HB := bA (bS hb); clear hb hbox hg; obtain ⟨hz1, hz2, hz3, hz4, hz5, hz6, hz7, hz8, hz9, hz10⟩ := bc5 BK236) | ((first | ((with_reducible refine gate_callee (f := 31) rfl ?_); refine bC (some 5) Try.func31 #[.slice A0_0 l0_0.length c0_0] ?_) | go_at_call 31); (with_reducible refine (poly_Right.calls k _ _ l0_0 true _ ?side1 ?side2 A2.out).mono ?_); (case side1 => exact bQ HR0_0); (case side2 => exact HC0_0.out); rintro e wz1 ⟨rfl, hb⟩; (first | refine ⟨_, rfl, ?_⟩ | skip); replace BK236 := bA (bB BK236 hb); replace HB := bA (bS hb); (try clear hb); obtain ⟨hz11, hz12, hz13, hz14, hz15, hz6, hz7, hz8, hz9, hz10⟩ := bc5 BK236) | (go_at_call 61; (with_reducible refine (rules_within_int64.calls a0_1 1 100 true _ A4.out).mono ?_); rintro e w' ⟨rfl, ⟨nd, rfl⟩⟩) | (go_at_call 61; (with_reducible refine (rules_within_int64.calls a0_2 1 65536 true _ A6.out).mono ?_); rintro e w' ⟨rfl, ⟨nd, rfl⟩⟩) | (go_at_call 57; (with_reducible refine (rules_within_int.calls a0_3 1 1000000 true _ A8.out).mono ?_); rintro e w' ⟨rfl, ⟨nd, rfl⟩⟩) | (go_at_call 61; (with_reducible refine (rules_within_int64.calls a0_4 0 1073741824 t241 _ A10.out).mono ?_); rintro e w' ⟨rfl, ⟨nd, rfl⟩⟩) | (go_at_call 57; (with_reducible refine (rules_within_int.calls a0_3 1 1000000 false _ A8.out).mono ?_); rintro e w' ⟨rfl, ⟨nd, rfl⟩⟩) | (go_at_call 61; (with_reducible refine (rules_within_int64.calls a0_2 1 65536 false _ A6.out).mono ?_); rintro e w' ⟨rfl, ⟨nd, rfl⟩⟩) | (go_at_call 61; (with_reducible refine (rules_within_int64.calls a0_1 1 100 false _ A4.out).mono ?_); rintro e w' ⟨rfl, ⟨nd, rfl⟩⟩) | ((first | ((with_reducible refine gate_callee (f := 31) rfl ?_); refine bC (some 5) Try.func31 #[.slice A0_0 l0_0.length c0_0] ?_) | go_at_call 31); (with_reducible refine (poly_Right.calls k _ _ l0_0 false _ ?side1 ?side2 A2.out).mono ?_); (case side1 => exact bQ HR0_0); (case side2 => exact HC0_0.out); rintro e wz1 ⟨rfl, hb⟩; (first | refine ⟨_, rfl, ?_⟩ | skip); replace BK236 := bA (bB BK236 hb); replace HB := bA (bS hb); (try clear hb)))
 all_goals (go_ret; exact bF)
/-! ### rules_Wrong_1: function 59 -/
def rules_Wrong_1.f (k : Nat) (l0_0 : List (S41)) (a0_1 : Int) (a0_2 : Int) (a0_3 : Int) (a0_4 : Int) : Option (Bool) := (rules_RightPhase.f k l0_0 a0_1 a0_2 a0_3 a0_4).bind fun t243 => (some (!t243))
theorem rules_Wrong_1.mono : ∀ a0 a1 a2 a3 a4 k, LeO (rules_Wrong_1.f k a0 a1 a2 a3 a4) (rules_Wrong_1.f (k + 1) a0 a1 a2 a3 a4) := by
 intro a0 a1 a2 a3 a4 k
 unfold rules_Wrong_1.f
 have m0_ := @rules_RightPhase.mono
 exact bMo
set_option maxHeartbeats 8000000 in
set_option maxRecDepth 100000 in
theorem rules_Wrong_1.calls (k : Nat) (A0_0 : Option Addr) (c0_0 : Nat) (l0_0 : List (S41)) (a0_1 : Int) (a0_2 : Int) (a0_3 : Int) (a0_4 : Int) (r : Bool) (w : World) (hr0_0 : Kd.C k41 w A0_0 l0_0.length l0_0) (hc0_0 : l0_0.length ≤ c0_0) (h : rules_Wrong_1.f k l0_0 a0_1 a0_2 a0_3 a0_4 = some r) :
  Calls Try.prog 59 #[.agg #[.slice A0_0 l0_0.length c0_0, .int .i64 a0_1, .int .i64 a0_2, .int .i64 a0_3, .int .i64 a0_4]] w fun e w' => e = .returned (.bool r) ∧ Below w.heap.size w w' := by
 have hu30 := Try.underlying30
 have HR0_0 := bA hr0_0
 have HC0_0 := bA hc0_0
 clear hr0_0 hc0_0
 have HB := bA (Below.refl w.heap.size w)
 have H : ((rules_RightPhase.f k l0_0 a0_1 a0_2 a0_3 a0_4).bind fun t243 => (some (!t243))) = some r := h
 clear h
 replace H := Option.bind_eq_some_iff.mp H
 obtain ⟨t243, A20, H⟩ := H
 have A2 := bA A20
 clear A20
 obtain rfl := Option.some.inj H
 go_enter Try.func59, Try.ntmps59
 go_wp2_with (first | ((with_reducible refine gate_dst (N := 1) rfl ?_); refine bE (N := 1) (cs := #[.slice A0_0 l0_0.length c0_0, .int .i64 a0_1, .int .i64 a0_2, .int .i64 a0_3, .int .i64 a0_4]) (t := 30) ?_; intro gb242 hg w3 hbox hb; have BK242 := bA (hbox); have GW242 := bA (bZ hg); have GE242 := bA (bZ hg); replace HB := bA (bS hb); clear hb hbox hg; obtain ⟨hcz4_0, hcz4_1, hcz4_2, hcz4_3, hcz4_4, hfz4_0, hfz4_1, hfz4_2, hfz4_3, hfz4_4⟩ := bc5 BK242) | ((first | ((with_reducible refine gate_callee (f := 22) rfl ?_); refine bC (some 4) Try.func22 #[.agg #[.slice A0_0 l0_0.length c0_0, .int .i64 a0_1, .int .i64 a0_2, .int .i64 a0_3, .int .i64 a0_4]] ?_) | go_at_call 22); (with_reducible refine (rules_RightPhase.calls k _ _ l0_0 a0_1 a0_2 a0_3 a0_4 t243 _ ?side1 ?side2 A2.out).mono ?_); (case side1 => exact bQ HR0_0); (case side2 => exact HC0_0.out); rintro e w5 ⟨rfl, hb⟩; (first | refine ⟨_, rfl, ?_⟩ | skip); replace BK242 := bA (bB BK242 hb); replace HB := bA (bS hb); (try clear hb)))
 go_ret
 exact bF
/-! ### slices_IndexFunc_Phase_F_rules_Wrong_1: function 1000001 -/
def slices_IndexFunc_Phase_F_rules_Wrong_1.l0 : Nat → List (S30) → Int → Int → Option (Int)
 | 0, _, _, _ => none
 | k + 1, x0, x7, x8 => if x8 < x7 then (if 0 ≤ x8 then (if x8 < (x0.length : Int) then ((rules_Wrong_1.f k ((rd_T30 x0 x8).f0) ((rd_T30 x0 x8).f1) ((rd_T30 x0 x8).f2) ((rd_T30 x0 x8).f3) ((rd_T30 x0 x8).f4)).bind fun t245 => (if t245 = true then (some x8) else (slices_IndexFunc_Phase_F_rules_Wrong_1.l0 k x0 x7 (wrap64 (x8 + 1))))) else (none)) else (none)) else (some (-1))
def slices_IndexFunc_Phase_F_rules_Wrong_1.f (k : Nat) (l0 : List (S30))  : Option (Int) := slices_IndexFunc_Phase_F_rules_Wrong_1.l0 k l0 (l0.length : Int) 0
theorem slices_IndexFunc_Phase_F_rules_Wrong_1.mono_l : ∀ k, (∀ y0 y1 y2, LeO (slices_IndexFunc_Phase_F_rules_Wrong_1.l0 k y0 y1 y2) (slices_IndexFunc_Phase_F_rules_Wrong_1.l0 (k + 1) y0 y1 y2))
 | 0 => fun _ _ _ r h => by simp [slices_IndexFunc_Phase_F_rules_Wrong_1.l0] at h
 | k + 1 => by
  have ih0 := slices_IndexFunc_Phase_F_rules_Wrong_1.mono_l k
  ·intro y0 y1 y2
   unfold slices_IndexFunc_Phase_F_rules_Wrong_1.l0
   have m0_ := @rules_Wrong_1.mono
   exact bMo
theorem slices_IndexFunc_Phase_F_rules_Wrong_1.mono : ∀ a0 k, LeO (slices_IndexFunc_Phase_F_rules_Wrong_1.f k a0) (slices_IndexFunc_Phase_F_rules_Wrong_1.f (k + 1) a0) := by
 intro a0 k
 have ih0 := slices_IndexFunc_Phase_F_rules_Wrong_1.mono_l k
 unfold slices_IndexFunc_Phase_F_rules_Wrong_1.f
 have m0_ := @rules_Wrong_1.mono
 exact bMo
set_option maxHeartbeats 8000000 in
set_option maxRecDepth 100000 in
theorem slices_IndexFunc_Phase_F_rules_Wrong_1.calls (k : Nat) (A0 : Option Addr) (c0 : Nat) (l0 : List (S30))  (r : Int) (w : World) (hr0 : Kd.C k30 w A0 l0.length l0) (hc0 : l0.length ≤ c0) (h : slices_IndexFunc_Phase_F_rules_Wrong_1.f k l0 = some r) :
  Calls Try.prog 100 #[.slice A0 l0.length c0, .func (.func 59) #[] #[]] w fun e w' => e = .returned (.int .i64 r) ∧ Below w.heap.size w w' := by
 have hu30 := Try.underlying30
 have HR0 := bA hr0
 have HC0 := bA hc0
 clear hr0 hc0
 have HB := bA (Below.refl w.heap.size w)
 have H : (slices_IndexFunc_Phase_F_rules_Wrong_1.l0 k l0 (l0.length : Int) 0) = some r := h
 clear h
 have H' := bA H
 clear H
 go_enter Try.func100, Try.ntmps100
 go_wp2
 go_loopg [8] k (fun kq v8 w' => ∃ (x8_1 : Int), v8 = .int .i64 x8_1 ∧ Aside0 (slices_IndexFunc_Phase_F_rules_Wrong_1.l0 kq l0 (l0.length : Int) x8_1 = some r) ∧ Aside0 (kq ≤ k) ∧ Aside0 (Below w.heap.size w w'))
 case atStart => exact ⟨(0), bs, H', ⟨Nat.le_refl _⟩, ⟨bX⟩⟩
 clear H'
 try clear c1
 try clear p2
 obtain ⟨x8_1, rfl, HA, HK1, HB⟩ := hrel
 cases gk with
 | zero => exact absurd HA.out (by simp [slices_IndexFunc_Phase_F_rules_Wrong_1.l0])
 | succ k1 =>
  have H := HA.out
  clear HA
  simp only [slices_IndexFunc_Phase_F_rules_Wrong_1.l0] at H
  by_cases c3 : x8_1 < (l0.length : Int)
  rw [if_pos c3] at H
  have c3b0 : decide (x8_1 < (l0.length : Int)) = true := decide_eq_true c3
  clear c3
  by_cases c4 : 0 ≤ x8_1
  rw [if_pos c4] at H
  have c4b0 : decide (0 ≤ x8_1) = true := decide_eq_true c4
  clear c4
  by_cases c5 : x8_1 < (l0.length : Int)
  rw [if_pos c5] at H
  have c5b0 : decide (x8_1 < (l0.length : Int)) = true := decide_eq_true c5
  clear c5
  replace H := Option.bind_eq_some_iff.mp H
  obtain ⟨t245, A60, H⟩ := H
  have A6 := bA A60
  clear A60
  by_cases c7 : t245 = true
  subst c7
  rw [if_pos rfl] at H
  obtain rfl := Option.some.inj H
  have p244 : 0 ≤ (x8_1 : Int) := bo
  have q244 : x8_1 < (l0.length : Int) := bo
  obtain ⟨ad244, A244_0, c244_0, e244, hx244_0, hx244_1, hx244_2, hx244_3, hx244_4, hl244_0, hi244_0⟩ := at_T30 HR0.out x8_1 p244 q244
  cases e244
  replace hx244_0 := bK hx244_0
  replace hx244_1 := bK hx244_1
  replace hx244_2 := bK hx244_2
  replace hx244_3 := bK hx244_3
  replace hx244_4 := bK hx244_4
  have HR244_0 := bA hi244_0
  have HC244_0 := bA hl244_0
  clear hi244_0 hl244_0
  replace p244 := eq_true p244
  replace q244 := eq_true q244
  rotate_left
  replace c7 := Bool.eq_false_iff.mpr c7
  subst c7
  rw [if_neg bn] at H
  have H' := bA H
  clear H
  have p244 : 0 ≤ (x8_1 : Int) := bo
  have q244 : x8_1 < (l0.length : Int) := bo
  obtain ⟨ad244, A244_0, c244_0, e244, hx244_0, hx244_1, hx244_2, hx244_3, hx244_4, hl244_0, hi244_0⟩ := at_T30 HR0.out x8_1 p244 q244
  cases e244
  replace hx244_0 := bK hx244_0
  replace hx244_1 := bK hx244_1
  replace hx244_2 := bK hx244_2
  replace hx244_3 := bK hx244_3
  replace hx244_4 := bK hx244_4
  have HR244_0 := bA hi244_0
  have HC244_0 := bA hl244_0
  clear hi244_0 hl244_0
  replace p244 := eq_true p244
  replace q244 := eq_true q244
  rotate_left
  rw [if_neg c5] at H
  exact absurd H (by simp)
  rw [if_neg c4] at H
  exact absurd H (by simp)
  rw [if_neg c3] at H
  have c3b0 : decide (x8_1 < (l0.length : Int)) = false := decide_eq_false c3
  clear c3
  obtain rfl := Option.some.inj H
  rotate_left
  all_goals go_wp2_with (first | (go_at_call 59; (with_reducible refine (rules_Wrong_1.calls k1 _ _ ((rd_T30 l0 x8_1).f0) ((rd_T30 l0 x8_1).f1) ((rd_T30 l0 x8_1).f2) ((rd_T30 l0 x8_1).f3) ((rd_T30 l0 x8_1).f4) true _ ?side1 ?side2 A6.out).mono ?_); (case side1 => exact bQ HR244_0); (case side2 => exact HC244_0.out); rintro e wz0 ⟨rfl, hb⟩; replace HB := bA (bS hb); (try clear hb)) | (go_at_call 59; (with_reducible refine (rules_Wrong_1.calls k1 _ _ ((rd_T30 l0 x8_1).f0) ((rd_T30 l0 x8_1).f1) ((rd_T30 l0 x8_1).f2) ((rd_T30 l0 x8_1).f3) ((rd_T30 l0 x8_1).f4) false _ ?side1 ?side2 A6.out).mono ?_); (case side1 => exact bQ HR244_0); (case side2 => exact HC244_0.out); rintro e wz0 ⟨rfl, hb⟩; replace HB := bA (bS hb); (try clear hb)))
  ·go_ret
   exact bF
  ·go_roundg k1
   case measure => have := HK1.out; omega
   case rel => exact ⟨(wrap64 (x8_1 + 1)), bs, H', ⟨by have := HK1.out; omega⟩, ⟨bX⟩⟩
  go_ret
  exact bF
/-! ### slices_ContainsFunc_Phase_F_rules_Wrong_1: function 1000000 -/
def slices_ContainsFunc_Phase_F_rules_Wrong_1.f (k : Nat) (l0 : List (S30))  : Option (Bool) := (slices_IndexFunc_Phase_F_rules_Wrong_1.f k l0).bind fun t246 => (some (decide (t246 ≥ 0)))
theorem slices_ContainsFunc_Phase_F_rules_Wrong_1.mono : ∀ a0 k, LeO (slices_ContainsFunc_Phase_F_rules_Wrong_1.f k a0) (slices_ContainsFunc_Phase_F_rules_Wrong_1.f (k + 1) a0) := by
 intro a0 k
 unfold slices_ContainsFunc_Phase_F_rules_Wrong_1.f
 have m0_ := @slices_IndexFunc_Phase_F_rules_Wrong_1.mono
 exact bMo
set_option maxHeartbeats 8000000 in
set_option maxRecDepth 100000 in
theorem slices_ContainsFunc_Phase_F_rules_Wrong_1.calls (k : Nat) (A0 : Option Addr) (c0 : Nat) (l0 : List (S30))  (r : Bool) (w : World) (hr0 : Kd.C k30 w A0 l0.length l0) (hc0 : l0.length ≤ c0) (h : slices_ContainsFunc_Phase_F_rules_Wrong_1.f k l0 = some r) :
  Calls Try.prog 58 #[.slice A0 l0.length c0, .func (.func 59) #[] #[]] w fun e w' => e = .returned (.bool r) ∧ Below w.heap.size w w' := by
 have HR0 := bA hr0
 have HC0 := bA hc0
 clear hr0 hc0
 have HB := bA (Below.refl w.heap.size w)
 have H : ((slices_IndexFunc_Phase_F_rules_Wrong_1.f k l0).bind fun t246 => (some (decide (t246 ≥ 0)))) = some r := h
 clear h
 replace H := Option.bind_eq_some_iff.mp H
 obtain ⟨t246, A30, H⟩ := H
 have A3 := bA A30
 clear A30
 obtain rfl := Option.some.inj H
 go_enter Try.func58, Try.ntmps58
 go_wp2_with (first | ((first | ((with_reducible refine gate_callee (f := 100) rfl ?_); refine bC (some 7) Try.func100 #[.slice A0 l0.length c0, .func (.func 59) #[] #[]] ?_) | go_at_call 100); (with_reducible refine (slices_IndexFunc_Phase_F_rules_Wrong_1.calls k _ _ l0  t246 _ ?side1 ?side2 A3.out).mono ?_); (case side1 => repeat (first | exact HR0.out | (with_reducible refine Kd.C_alloc ?_ _) | (with_reducible refine Kd.C_drewN ?_ _) | (with_reducible refine Kd.C_drew ?_))); (case side2 => exact HC0.out); rintro e w4 ⟨rfl, hb⟩; (first | refine ⟨_, rfl, ?_⟩ | skip); replace HB := bA (bS hb); (try clear hb)))
 go_ret
 exact bF
end Go.Proofs.Ytjmibjmlihmglaa.G
