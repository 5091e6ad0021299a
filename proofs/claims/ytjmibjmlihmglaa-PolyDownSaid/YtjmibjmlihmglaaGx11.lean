-- Written by a program of this session out of the translation; Lean checks it.
import Derived.Test.YtjmibjmlihmglaaGx0
import Derived.Test.YtjmibjmlihmglaaGx4
import Derived.Test.YtjmibjmlihmglaaGx10
namespace Go.Proofs.Ytjmibjmlihmglaa.G
open Go.RowKit Go.Proofs.YtjmibjmlihmglaaW.PrintWords Go.Proofs.YtjmibjmlihmglaaW.PrintLast Go.Proofs.YtjmibjmlihmglaaW.PrintMore
attribute [local go_sem] max2_int min2_int max_two min_two max_three min_three max_four min_four   -- for this text's walks alone
set_option linter.unusedVariables false
set_option linter.unusedSimpArgs false

attribute [local go_sem high] eqA85
/-! ### slices_IndexFunc_Point_F_poly_far: function 1000005 -/
def slices_IndexFunc_Point_F_poly_far.l0 : Nat → List (S41) → Int → Int → Option (Int)
 | 0, _, _, _ => none
 | k + 1, x0, x7, x8 => if x8 < x7 then (if 0 ≤ x8 then (if x8 < (x0.length : Int) then ((poly_far.f ((rd_T41 x0 x8).f0) ((rd_T41 x0 x8).f1)).bind fun t199 => (if t199 = true then (some x8) else (slices_IndexFunc_Point_F_poly_far.l0 k x0 x7 (wrap64 (x8 + 1))))) else (none)) else (none)) else (some (-1))
def slices_IndexFunc_Point_F_poly_far.f (k : Nat) (l0 : List (S41))  : Option (Int) := slices_IndexFunc_Point_F_poly_far.l0 k l0 (l0.length : Int) 0
theorem slices_IndexFunc_Point_F_poly_far.mono_l : ∀ k, (∀ y0 y1 y2, LeO (slices_IndexFunc_Point_F_poly_far.l0 k y0 y1 y2) (slices_IndexFunc_Point_F_poly_far.l0 (k + 1) y0 y1 y2))
 | 0 => fun _ _ _ r h => by simp [slices_IndexFunc_Point_F_poly_far.l0] at h
 | k + 1 => by
  have ih0 := slices_IndexFunc_Point_F_poly_far.mono_l k
  ·intro y0 y1 y2
   unfold slices_IndexFunc_Point_F_poly_far.l0
   repeat' first
   | (with_reducible exact ih0 _ _ _)
   | (with_reducible exact LeO.refl _)
   | (with_reducible exact LeO.none _)
   | (with_reducible refine LeO.ite ?_ ?_)
   | (with_reducible refine LeO.bind ?_ (fun _ => ?_))
   | exact ih0 _ _ _
   | exact LeO.none _
   | refine LeO.ite ?_ ?_
   | refine LeO.bind ?_ (fun _ => ?_)
theorem slices_IndexFunc_Point_F_poly_far.mono : ∀ a0 k, LeO (slices_IndexFunc_Point_F_poly_far.f k a0) (slices_IndexFunc_Point_F_poly_far.f (k + 1) a0) := by
 intro a0 k
 have ih0 := slices_IndexFunc_Point_F_poly_far.mono_l k
 unfold slices_IndexFunc_Point_F_poly_far.f
 repeat' first
   | (with_reducible exact ih0 _ _ _)
   | (with_reducible exact LeO.refl _)
   | (with_reducible exact LeO.none _)
   | (with_reducible refine LeO.ite ?_ ?_)
   | (with_reducible refine LeO.bind ?_ (fun _ => ?_))
   | exact ih0 _ _ _
   | exact LeO.none _
   | refine LeO.ite ?_ ?_
   | refine LeO.bind ?_ (fun _ => ?_)
set_option maxHeartbeats 8000000 in
set_option maxRecDepth 100000 in
theorem slices_IndexFunc_Point_F_poly_far.calls (k : Nat) (A0 : Option Addr) (c0 : Nat) (l0 : List (S41))  (r : Int) (w : World) (hr0 : Kd.C k41 w A0 l0.length l0) (hc0 : l0.length ≤ c0) (h : slices_IndexFunc_Point_F_poly_far.f k l0 = some r) :
  Calls Try.prog 102 #[.slice A0 l0.length c0, .func (.func 72) #[] #[]] w fun e w' => e = .returned (.int .i64 r) ∧ Below w.heap.size w w' := by
 have hu41 := Try.underlying41
 have HR0 := bA hr0
 have HC0 := bA hc0
 clear hr0 hc0
 have HB := bA (Below.refl w.heap.size w)
 have H : (slices_IndexFunc_Point_F_poly_far.l0 k l0 (l0.length : Int) 0) = some r := h
 clear h
 have H' := bA H
 clear H
 go_enter Try.func102, Try.ntmps102
 go_wp2
 go_loopg [8] k (fun kq v8 w' => ∃ (x8_1 : Int), v8 = .int .i64 x8_1 ∧ Aside0 (slices_IndexFunc_Point_F_poly_far.l0 kq l0 (l0.length : Int) x8_1 = some r) ∧ Aside0 (kq ≤ k) ∧ Aside0 (Below w.heap.size w w'))
 case atStart => exact ⟨(0), bs, H', ⟨Nat.le_refl _⟩, ⟨bX⟩⟩
 clear H'
 try clear c1
 try clear p2
 obtain ⟨x8_1, rfl, HA, HK1, HB⟩ := hrel
 cases gk with
 | zero => exact absurd HA.out (by simp [slices_IndexFunc_Point_F_poly_far.l0])
 | succ k1 =>
  have H := HA.out
  clear HA
  simp only [slices_IndexFunc_Point_F_poly_far.l0] at H
  by_cases c3 : x8_1 < (l0.length : Int)
  rw [if_pos c3] at H
  have c3b0 : decide (x8_1 < (l0.length : Int)) = true := decide_eq_true c3
  clear c3
  by_cases c4 : 0 ≤ x8_1
  rw [if_pos c4] at H
  have c4b0 : decide (0 ≤ x8_1) = true := decide_eq_true c4
  clear c4
  by_cases c5 : x8_1 < (l0.length : Int)
  rw [if_pos c5] at H
  have c5b0 : decide (x8_1 < (l0.length : Int)) = true := decide_eq_true c5
  clear c5
  replace H := Option.bind_eq_some_iff.mp H
  obtain ⟨t199, A60, H⟩ := H
  have A6 := bA A60
  clear A60
  by_cases c7 : t199 = true
  subst c7
  rw [if_pos rfl] at H
  obtain rfl := Option.some.inj H
  have p198 : 0 ≤ (x8_1 : Int) := bo
  have q198 : x8_1 < (l0.length : Int) := bo
  obtain ⟨ad198, e198, hx198_0, hx198_1⟩ := at_T41 HR0.out x8_1 p198 q198
  cases e198
  replace hx198_0 := bK hx198_0
  replace hx198_1 := bK hx198_1
  replace p198 := eq_true p198
  replace q198 := eq_true q198
  rotate_left
  replace c7 := Bool.eq_false_iff.mpr c7
  subst c7
  rw [if_neg bn] at H
  have H' := bA H
  clear H
  have p198 : 0 ≤ (x8_1 : Int) := bo
  have q198 : x8_1 < (l0.length : Int) := bo
  obtain ⟨ad198, e198, hx198_0, hx198_1⟩ := at_T41 HR0.out x8_1 p198 q198
  cases e198
  replace hx198_0 := bK hx198_0
  replace hx198_1 := bK hx198_1
  replace p198 := eq_true p198
  replace q198 := eq_true q198
  rotate_left
  rw [if_neg c5] at H
  exact absurd H (by simp)
  rw [if_neg c4] at H
  exact absurd H (by simp)
  rw [if_neg c3] at H
  have c3b0 : decide (x8_1 < (l0.length : Int)) = false := decide_eq_false c3
  clear c3
  obtain rfl := Option.some.inj H
  rotate_left
  all_goals go_wp2_with (first | (go_at_call 72; (with_reducible refine (poly_far.calls ((rd_T41 l0 x8_1).f0) ((rd_T41 l0 x8_1).f1) true _ A6.out).mono ?_); rintro e wz0 ⟨rfl, hb⟩; replace HB := bA (bS hb); (try clear hb)) | (go_at_call 72; (with_reducible refine (poly_far.calls ((rd_T41 l0 x8_1).f0) ((rd_T41 l0 x8_1).f1) false _ A6.out).mono ?_); rintro e wz0 ⟨rfl, hb⟩; replace HB := bA (bS hb); (try clear hb)))
  ·go_ret
   exact bF
  ·go_roundg k1
   case measure => have := HK1.out; omega
   case rel => exact ⟨(wrap64 (x8_1 + 1)), bs, H', ⟨by have := HK1.out; omega⟩, ⟨bX⟩⟩
  go_ret
  exact bF
/-! ### slices_ContainsFunc_Point_F_poly_far: function 1000000 -/
def slices_ContainsFunc_Point_F_poly_far.f (k : Nat) (l0 : List (S41))  : Option (Bool) := (slices_IndexFunc_Point_F_poly_far.f k l0).bind fun t200 => (some (decide (t200 ≥ 0)))
theorem slices_ContainsFunc_Point_F_poly_far.mono : ∀ a0 k, LeO (slices_ContainsFunc_Point_F_poly_far.f k a0) (slices_ContainsFunc_Point_F_poly_far.f (k + 1) a0) := by
 intro a0 k
 unfold slices_ContainsFunc_Point_F_poly_far.f
 repeat' first
   | (with_reducible exact slices_IndexFunc_Point_F_poly_far.mono _ _)
   | (with_reducible exact LeO.refl _)
   | (with_reducible exact LeO.none _)
   | (with_reducible refine LeO.ite ?_ ?_)
   | (with_reducible refine LeO.bind ?_ (fun _ => ?_))
   | exact slices_IndexFunc_Point_F_poly_far.mono _ _
   | exact LeO.none _
   | refine LeO.ite ?_ ?_
   | refine LeO.bind ?_ (fun _ => ?_)
set_option maxHeartbeats 8000000 in
set_option maxRecDepth 100000 in
theorem slices_ContainsFunc_Point_F_poly_far.calls (k : Nat) (A0 : Option Addr) (c0 : Nat) (l0 : List (S41))  (r : Bool) (w : World) (hr0 : Kd.C k41 w A0 l0.length l0) (hc0 : l0.length ≤ c0) (h : slices_ContainsFunc_Point_F_poly_far.f k l0 = some r) :
  Calls Try.prog 65 #[.slice A0 l0.length c0, .func (.func 72) #[] #[]] w fun e w' => e = .returned (.bool r) ∧ Below w.heap.size w w' := by
 have HR0 := bA hr0
 have HC0 := bA hc0
 clear hr0 hc0
 have HB := bA (Below.refl w.heap.size w)
 have H : ((slices_IndexFunc_Point_F_poly_far.f k l0).bind fun t200 => (some (decide (t200 ≥ 0)))) = some r := h
 clear h
 replace H := Option.bind_eq_some_iff.mp H
 obtain ⟨t200, A30, H⟩ := H
 have A3 := bA A30
 clear A30
 obtain rfl := Option.some.inj H
 go_enter Try.func65, Try.ntmps65
 go_wp2_with (first | ((first | ((with_reducible refine gate_callee (f := 102) rfl ?_); refine bC (some 7) Try.func102 #[.slice A0 l0.length c0, .func (.func 72) #[] #[]] ?_) | go_at_call 102); (with_reducible refine (slices_IndexFunc_Point_F_poly_far.calls k _ _ l0  t200 _ ?side1 ?side2 A3.out).mono ?_); (case side1 => repeat (first | exact HR0.out | (with_reducible refine Kd.C_alloc ?_ _) | (with_reducible refine Kd.C_drewN ?_ _) | (with_reducible refine Kd.C_drew ?_))); (case side2 => exact HC0.out); rintro e w4 ⟨rfl, hb⟩; (first | refine ⟨_, rfl, ?_⟩ | skip); replace HB := bA (bS hb); (try clear hb)))
 go_ret
 exact bF
/-! ### poly_Right: function 31 -/
def poly_Right.f (k : Nat) (l0 : List (S41)) : Option (Bool) := (poly_Simple.f k l0).bind fun t201 => (if t201 = true then ((slices_ContainsFunc_Point_F_poly_far.f k l0).bind fun t202 => (some (!t202))) else (some false))
theorem poly_Right.mono : ∀ a0 k, LeO (poly_Right.f k a0) (poly_Right.f (k + 1) a0) := by
 intro a0 k
 unfold poly_Right.f
 repeat' first
   | (with_reducible exact poly_Simple.mono _ _)
   | (with_reducible exact slices_ContainsFunc_Point_F_poly_far.mono _ _)
   | (with_reducible exact LeO.refl _)
   | (with_reducible exact LeO.none _)
   | (with_reducible refine LeO.ite ?_ ?_)
   | (with_reducible refine LeO.bind ?_ (fun _ => ?_))
   | exact poly_Simple.mono _ _
   | exact slices_ContainsFunc_Point_F_poly_far.mono _ _
   | exact LeO.none _
   | refine LeO.ite ?_ ?_
   | refine LeO.bind ?_ (fun _ => ?_)
set_option maxHeartbeats 8000000 in
set_option maxRecDepth 100000 in
theorem poly_Right.calls (k : Nat) (A0 : Option Addr) (c0 : Nat) (l0 : List (S41)) (r : Bool) (w : World) (hr0 : Kd.C k41 w A0 l0.length l0) (hc0 : l0.length ≤ c0) (h : poly_Right.f k l0 = some r) :
  Calls Try.prog 31 #[.slice A0 l0.length c0] w fun e w' => e = .returned (.bool r) ∧ Below w.heap.size w w' := by
 have HR0 := bA hr0
 have HC0 := bA hc0
 clear hr0 hc0
 have HB := bA (Below.refl w.heap.size w)
 have H : ((poly_Simple.f k l0).bind fun t201 => (if t201 = true then ((slices_ContainsFunc_Point_F_poly_far.f k l0).bind fun t202 => (some (!t202))) else (some false))) = some r := h
 clear h
 replace H := Option.bind_eq_some_iff.mp H
 obtain ⟨t201, A20, H⟩ := H
 have A2 := bA A20
 clear A20
 by_cases c3 : t201 = true
 subst c3
 rw [if_pos rfl] at H
 replace H := Option.bind_eq_some_iff.mp H
 obtain ⟨t202, A40, H⟩ := H
 have A4 := bA A40
 clear A40
 obtain rfl := Option.some.inj H
 rotate_left
 replace c3 := Bool.eq_false_iff.mpr c3
 subst c3
 rw [if_neg bn] at H
 obtain rfl := Option.some.inj H
 rotate_left
 all_goals go_enter Try.func31, Try.ntmps31
 all_goals go_wp2_with (first | ((first | ((with_reducible refine gate_callee (f := 29) rfl ?_); refine bC (some 4) Try.func29 #[.slice A0 l0.length c0] ?_) | go_at_call 29); (with_reducible refine (poly_Simple.calls k _ _ l0 true _ ?side1 ?side2 A2.out).mono ?_); (case side1 => repeat (first | exact HR0.out | (with_reducible refine Kd.C_alloc ?_ _) | (with_reducible refine Kd.C_drewN ?_ _) | (with_reducible refine Kd.C_drew ?_))); (case side2 => exact HC0.out); rintro e wz0 ⟨rfl, hb⟩; (first | refine ⟨_, rfl, ?_⟩ | skip); replace HB := bA (bS hb); (try clear hb)) | (go_at_call 65; (with_reducible refine (slices_ContainsFunc_Point_F_poly_far.calls k _ _ l0  t202 _ ?side1 ?side2 A4.out).mono ?_); (case side1 => exact bQ HR0); (case side2 => exact HC0.out); rintro e wz1 ⟨rfl, hb⟩; replace HB := bA (bS hb); (try clear hb)) | ((first | ((with_reducible refine gate_callee (f := 29) rfl ?_); refine bC (some 4) Try.func29 #[.slice A0 l0.length c0] ?_) | go_at_call 29); (with_reducible refine (poly_Simple.calls k _ _ l0 false _ ?side1 ?side2 A2.out).mono ?_); (case side1 => repeat (first | exact HR0.out | (with_reducible refine Kd.C_alloc ?_ _) | (with_reducible refine Kd.C_drewN ?_ _) | (with_reducible refine Kd.C_drew ?_))); (case side2 => exact HC0.out); rintro e wz0 ⟨rfl, hb⟩; (first | refine ⟨_, rfl, ?_⟩ | skip); replace HB := bA (bS hb); (try clear hb)))
 all_goals (go_ret; exact bF)
/-! ### poly_Bounds: function 27 -/
def poly_Bounds.l0 : Nat → List (S41) → Int → Int → Int → Int → Int → Int → Option (Int × Int × Int × Int × Bool)
 | 0, _, _, _, _, _, _, _ => none
 | k + 1, x17, x18, x19, x204000, x204001, x204002, x204003 => if x19 < x18 then (if 0 ≤ x19 then (if x19 < (x17.length : Int) then (poly_Bounds.l0 k x17 x18 (wrap64 (x19 + 1)) (mn x204000 ((rd_T41 x17 x19).f0)) (mn x204001 ((rd_T41 x17 x19).f1)) (mx x204002 ((rd_T41 x17 x19).f0)) (mx x204003 ((rd_T41 x17 x19).f1))) else (none)) else (none)) else (some (x204000, x204001, x204002, x204003, true))
def poly_Bounds.f (k : Nat) (l0 : List (S41)) : Option (Int × Int × Int × Int × Bool) := (poly_Right.f k l0).bind fun t204 => (if t204 = true then (if 0 < (l0.length : Int) then (poly_Bounds.l0 k l0 (l0.length : Int) 0 ((rd_T41 l0 0).f0) ((rd_T41 l0 0).f1) ((rd_T41 l0 0).f0) ((rd_T41 l0 0).f1)) else (none)) else (some (0, 0, 0, 0, false)))
theorem poly_Bounds.mono_l : ∀ k, (∀ y0 y1 y2 y3 y4 y5 y6, LeO (poly_Bounds.l0 k y0 y1 y2 y3 y4 y5 y6) (poly_Bounds.l0 (k + 1) y0 y1 y2 y3 y4 y5 y6))
 | 0 => fun _ _ _ _ _ _ _ r h => by simp [poly_Bounds.l0] at h
 | k + 1 => by
  have ih0 := poly_Bounds.mono_l k
  ·intro y0 y1 y2 y3 y4 y5 y6
   unfold poly_Bounds.l0
   repeat' first
   | (with_reducible exact ih0 _ _ _ _ _ _ _)
   | (with_reducible exact poly_Right.mono _ _)
   | (with_reducible exact LeO.refl _)
   | (with_reducible exact LeO.none _)
   | (with_reducible refine LeO.ite ?_ ?_)
   | (with_reducible refine LeO.bind ?_ (fun _ => ?_))
   | exact ih0 _ _ _ _ _ _ _
   | exact poly_Right.mono _ _
   | exact LeO.none _
   | refine LeO.ite ?_ ?_
   | refine LeO.bind ?_ (fun _ => ?_)
theorem poly_Bounds.mono : ∀ a0 k, LeO (poly_Bounds.f k a0) (poly_Bounds.f (k + 1) a0) := by
 intro a0 k
 have ih0 := poly_Bounds.mono_l k
 unfold poly_Bounds.f
 repeat' first
   | (with_reducible exact ih0 _ _ _ _ _ _ _)
   | (with_reducible exact poly_Right.mono _ _)
   | (with_reducible exact LeO.refl _)
   | (with_reducible exact LeO.none _)
   | (with_reducible refine LeO.ite ?_ ?_)
   | (with_reducible refine LeO.bind ?_ (fun _ => ?_))
   | exact ih0 _ _ _ _ _ _ _
   | exact poly_Right.mono _ _
   | exact LeO.none _
   | refine LeO.ite ?_ ?_
   | refine LeO.bind ?_ (fun _ => ?_)
def poly_Bounds.T3 : Bool × List (List Nat × List Nat) := (true, [([], []), ([0], [0]), ([1], [1]), ([], []), ([3], [3]), ([4], [4]), ([2, 5], [2, 5]), ([6, 0, 1, 2, 3, 4, 5, 6], [6])])
def poly_Bounds.B3 : List Nat := [0, 1, 3, 0, 8, 24, 63, 127]
theorem poly_Bounds.tab3 : rtab .any (opsOf Try.f27 3) = poly_Bounds.T3 := by kernel_rfl
theorem poly_Bounds.bits3 : waitsOk poly_Bounds.T3.2 poly_Bounds.B3 = true := by kernel_rfl
set_option maxHeartbeats 8000000 in
set_option maxRecDepth 100000 in
theorem poly_Bounds.calls (k : Nat) (A0 : Option Addr) (c0 : Nat) (l0 : List (S41)) (r1 : Int) (r2 : Int) (r3 : Int) (r4 : Int) (r5 : Bool) (w : World) (hr0 : Kd.C k41 w A0 l0.length l0) (hc0 : l0.length ≤ c0) (h : poly_Bounds.f k l0 = some (r1, r2, r3, r4, r5)) :
  Calls Try.prog 27 #[.slice A0 l0.length c0] w fun e w' => e = .returned (.tuple #[.agg #[.int .i64 r1, .int .i64 r2, .int .i64 r3, .int .i64 r4], .bool r5]) ∧ Below w.heap.size w w' := by
 have hu44 := Try.underlying44
 have hu41 := Try.underlying41
 have HR0 := bA hr0
 have HC0 := bA hc0
 clear hr0 hc0
 have HB := bA (Below.refl w.heap.size w)
 have H : ((poly_Right.f k l0).bind fun t204 => (if t204 = true then (if 0 < (l0.length : Int) then (poly_Bounds.l0 k l0 (l0.length : Int) 0 ((rd_T41 l0 0).f0) ((rd_T41 l0 0).f1) ((rd_T41 l0 0).f0) ((rd_T41 l0 0).f1)) else (none)) else (some (0, 0, 0, 0, false)))) = some (r1, r2, r3, r4, r5) := h
 clear h
 replace H := Option.bind_eq_some_iff.mp H
 obtain ⟨t204, A20, H⟩ := H
 have A2 := bA A20
 clear A20
 by_cases c3 : t204 = true
 rotate_left
 ·replace c3 := Bool.eq_false_iff.mpr c3
  subst c3
  rw [if_neg bn] at H
  simp only [Option.some.injEq, Prod.mk.injEq] at H
  obtain ⟨rfl, rfl, rfl, rfl, rfl⟩ := H
  go_enter Try.func27, Try.ntmps27
  go_wp2_with (first | ((with_reducible refine gate_dst (N := 2) rfl ?_); refine bE (N := 2) (cs := #[.int .i64 0, .int .i64 0, .int .i64 0, .int .i64 0]) (t := 44) ?_; intro gb203 hg w24 hbox hb; have BK203 := bA (hbox); have GW203 := bA (bZ hg); have GE203 := bA (bZ hg); replace HB := bA (bS hb); clear hb hbox hg) | ((first | ((with_reducible refine gate_callee (f := 31) rfl ?_); refine bC (some 7) Try.func31 #[.slice A0 l0.length c0] ?_) | go_at_call 31); (with_reducible refine (poly_Right.calls k _ _ l0 false _ ?side1 ?side2 A2.out).mono ?_); (case side1 => exact bQ HR0); (case side2 => exact HC0.out); rintro e w25 ⟨rfl, hb⟩; (first | refine ⟨_, rfl, ?_⟩ | skip); replace BK203 := bA (bB BK203 hb); replace HB := bA (bS hb); (try clear hb); obtain ⟨hcz26_0, hcz26_1, hcz26_2, hcz26_3, hfz26_0, hfz26_1, hfz26_2, hfz26_3⟩ := bc4 BK203))
  refine bodyPost_ret (results_ct rfl _ _ gb203 44 #[.int .i64 0, .int .i64 0, .int .i64 0, .int .i64 0] (0, 0) _ rfl (by (with_reducible repeat (first | refine blk_drewN ?_ _ | refine blk_drew ?_ | refine blk_alloc ?_ _)); refine blk_put (cs := #[.int .i64 0, .int .i64 0, .int .i64 0, .int .i64 0]) ?_ 3 _ rfl; (with_reducible repeat (first | refine blk_drewN ?_ _ | refine blk_drew ?_ | refine blk_alloc ?_ _)); refine blk_put (cs := #[.int .i64 0, .int .i64 0, .int .i64 0, .int .i64 0]) ?_ 2 _ rfl; (with_reducible repeat (first | refine blk_drewN ?_ _ | refine blk_drew ?_ | refine blk_alloc ?_ _)); refine blk_put (cs := #[.int .i64 0, .int .i64 0, .int .i64 0, .int .i64 0]) ?_ 1 _ rfl; (with_reducible repeat (first | refine blk_drewN ?_ _ | refine blk_drew ?_ | refine blk_alloc ?_ _)); refine blk_put (cs := #[.int .i64 0, .int .i64 0, .int .i64 0, .int .i64 0]) ?_ 0 _ rfl; (with_reducible repeat (first | refine blk_drewN ?_ _ | refine blk_drew ?_ | refine blk_alloc ?_ _)); exact BK203.out) Try.underlying44 rfl (by kernel_rfl)) rfl ?_
  exact bF
 subst c3
 rw [if_pos rfl] at H
 by_cases c4 : 0 < (l0.length : Int)
 rotate_left
 ·rw [if_neg c4] at H
  exact absurd H (by simp)
 rw [if_pos c4] at H
 have c4b0 : decide (0 < (l0.length : Int)) = true := decide_eq_true c4
 have c4b1 : decide (0 < l0.length) = true := decide_eq_true (by omega)
 clear c4
 have H' := bA H
 clear H
 go_enter Try.func27, Try.ntmps27
 try go_wp2_with (first | ((with_reducible refine gate_dst (N := 2) rfl ?_); refine bE (N := 2) (cs := #[.int .i64 0, .int .i64 0, .int .i64 0, .int .i64 0]) (t := 44) ?_; intro gb203 hg w5 hbox hb; have BK203 := bA (hbox); have GW203 := bA (bZ hg); have GE203 := bA (bZ hg); replace HB := bA (bS hb); clear hb hbox hg) | ((first | ((with_reducible refine gate_callee (f := 31) rfl ?_); refine bC (some 7) Try.func31 #[.slice A0 l0.length c0] ?_) | go_at_call 31); (with_reducible refine (poly_Right.calls k _ _ l0 true _ ?side1 ?side2 A2.out).mono ?_); (case side1 => exact bQ HR0); (case side2 => exact HC0.out); rintro e w6 ⟨rfl, hb⟩; (first | refine ⟨_, rfl, ?_⟩ | skip); replace BK203 := bA (bB BK203 hb); replace HB := bA (bS hb); (try clear hb)))
 replace BK203 := bA (blk_drew BK203.out)
 replace HB := bA (below_drew1 HB.out)
 have p205 : 0 ≤ (0 : Int) := (by omega)
 have q205 : 0 < (l0.length : Int) := bo
 obtain ⟨ad205, e205, hx205_0, hx205_1⟩ := at_T41 HR0.out 0 p205 q205
 have hw205_1 := hx205_1
 (try rw [show ((0 : Int)).toNat = 0 from rfl] at hw205_1)
 (try rw [show 0 * 2 = 0 from rfl] at hw205_1)
 (try rw [Addr.add_zero'] at hw205_1)
 have hw205_0 := hx205_0
 (try rw [show ((0 : Int)).toNat = 0 from rfl] at hw205_0)
 (try rw [show 0 * 2 = 0 from rfl] at hw205_0)
 (try rw [Addr.add_zero'] at hw205_0)
 cases e205
 have qi205 : (0 < l0.length) = True := eq_true (by omega)
 (try rw [show ((0 : Int)).toNat = 0 from rfl] at hx205_0)
 (try rw [show 0 * 2 = 0 from rfl] at hx205_0)
 (try rw [Addr.add_zero'] at hx205_0)
 (try rw [show ((0 : Int)).toNat = 0 from rfl] at hx205_1)
 (try rw [show 0 * 2 = 0 from rfl] at hx205_1)
 (try rw [Addr.add_zero'] at hx205_1)
 replace hx205_0 := bK hx205_0
 replace hx205_1 := bK hx205_1
 replace p205 := eq_true p205
 replace q205 := eq_true q205
 have p206 : 0 ≤ (0 : Int) := (by omega)
 have q206 : 0 < (l0.length : Int) := bo
 obtain ⟨ad206, e206, hx206_0, hx206_1⟩ := at_T41 HR0.out 0 p206 q206
 have hw206_1 := hx206_1
 (try rw [show ((0 : Int)).toNat = 0 from rfl] at hw206_1)
 (try rw [show 0 * 2 = 0 from rfl] at hw206_1)
 (try rw [Addr.add_zero'] at hw206_1)
 have hw206_0 := hx206_0
 (try rw [show ((0 : Int)).toNat = 0 from rfl] at hw206_0)
 (try rw [show 0 * 2 = 0 from rfl] at hw206_0)
 (try rw [Addr.add_zero'] at hw206_0)
 obtain rfl : ad205 = ad206 := (by injection e206)
 have qi206 : (0 < l0.length) = True := eq_true (by omega)
 (try rw [show ((0 : Int)).toNat = 0 from rfl] at hx206_0)
 (try rw [show 0 * 2 = 0 from rfl] at hx206_0)
 (try rw [Addr.add_zero'] at hx206_0)
 (try rw [show ((0 : Int)).toNat = 0 from rfl] at hx206_1)
 (try rw [show 0 * 2 = 0 from rfl] at hx206_1)
 (try rw [Addr.add_zero'] at hx206_1)
 replace hx206_0 := bK hx206_0
 replace hx206_1 := bK hx206_1
 replace p206 := eq_true p206
 replace q206 := eq_true q206
 refine start_ (n := 8) (S := fun w' => w'.cell? ad205 = some (.int .i64 ((rd_T41 l0 0).f0)) ∧ w'.cell? ⟨ad205.block, ad205.off + 1, none⟩ = some (.int .i64 ((rd_T41 l0 0).f1)) ∧ w'.cell? ad205 = some (.int .i64 ((rd_T41 l0 0).f0)) ∧ w'.cell? ⟨ad205.block, ad205.off + 1, none⟩ = some (.int .i64 ((rd_T41 l0 0).f1))) (ds := []) #[false,false,false,false,false,false,false,false] (by kernel_rfl) rfl rfl ⟨(bK hw205_0), (bK hw205_1), (bK hw206_0), (bK hw206_1)⟩ (fun hHeld => ?_); refine with_tabW poly_Bounds.tab3 poly_Bounds.bits3 (fun HT_ HW_ => ?_)
 generalize w6.drew = w7 at BK203 HB hx205_0 hx205_1 hx206_0 hx206_1 hHeld ⊢
 refine bU (i := 0) (N := some 10) ?_
 refine bU (i := 1) (N := some 11) ?_
 refine bU (i := 3) (N := some 13) ?_
 refine bU (i := 4) (N := some 14) ?_
 refine bW (i := 2) (N := some 12) hHeld ?_
 refine bW (i := 5) (N := some 15) hHeld ?_
 refine bU (i := 6) (N := some 16) ?_
 refine one_ (i := 7) (N := none) #[true,true,true,true,true,true,true,true] rfl rfl (one_of HT_.out (by kernel_rfl)) (by decide) (fun K hK => ?_)
 have hs8 : w7.cell? ⟨gb203, 0, none⟩ = some (.int .i64 0) := bq BK203 0
 have hfs8 := blk_frozen BK203.out 0
 have hs9 : w7.cell? ⟨gb203, 1, none⟩ = some (.int .i64 0) := bq BK203 1
 have hfs9 := blk_frozen BK203.out 1
 have hs10 : w7.cell? ⟨gb203, 2, none⟩ = some (.int .i64 0) := bq BK203 2
 have hfs10 := blk_frozen BK203.out 2
 have hs11 : w7.cell? ⟨gb203, 3, none⟩ = some (.int .i64 0) := bq BK203 3
 have hfs11 := blk_frozen BK203.out 3
 refine skip_ (w1 := ?_) (by rfl) rfl ?_ ?_
 rotate_left
 ·go_simp
  rfl
 refine hK.out _ _ ⟨((bV hw205_0 GW203).trans (((bV hw205_0 GW203).trans (((bV hw205_0 GW203).trans (((bV hw205_0 GW203).trans (hHeld.1)))))))), ((bV hw205_1 GW203).trans (((bV hw205_1 GW203).trans (((bV hw205_1 GW203).trans (((bV hw205_1 GW203).trans (hHeld.2.1)))))))), ((bV hw206_0 GW203).trans (((bV hw206_0 GW203).trans (((bV hw206_0 GW203).trans (((bV hw206_0 GW203).trans (hHeld.2.2.1)))))))), ((bV hw206_1 GW203).trans (((bV hw206_1 GW203).trans (((bV hw206_1 GW203).trans (((bV hw206_1 GW203).trans (hHeld.2.2.2))))))))⟩ (fun hHeld => ?_)
 clear hK K
 refine done_ (done_of HT_.out (by kernel_rfl)) ?_
 try go_wp2
 go_loopg [19] k (fun kq v19 w' => ∃ (x19_1 : Int) (x204000_1 : Int) (x204001_1 : Int) (x204002_1 : Int) (x204003_1 : Int), v19 = .int .i64 x19_1 ∧ Aside0 (poly_Bounds.l0 kq l0 (l0.length : Int) x19_1 x204000_1 x204001_1 x204002_1 x204003_1 = some (r1, r2, r3, r4, r5)) ∧ Aside0 (kq ≤ k) ∧ Aside0 (w'.heap[gb203]? = some (.cells #[.int .i64 x204000_1, .int .i64 x204001_1, .int .i64 x204002_1, .int .i64 x204003_1] 44 (0, 0))) ∧ Aside0 (Below w.heap.size w w'))
 case atStart => exact ⟨(0), ((rd_T41 l0 0).f0), ((rd_T41 l0 0).f1), ((rd_T41 l0 0).f0), ((rd_T41 l0 0).f1), bs, H', ⟨Nat.le_refl _⟩, ⟨by (with_reducible repeat (first | refine blk_drewN ?_ _ | refine blk_drew ?_ | refine blk_alloc ?_ _)); refine blk_put (cs := #[.int .i64 ((rd_T41 l0 0).f0), .int .i64 ((rd_T41 l0 0).f1), .int .i64 ((rd_T41 l0 0).f0), .int .i64 0]) ?_ 3 _ rfl; (with_reducible repeat (first | refine blk_drewN ?_ _ | refine blk_drew ?_ | refine blk_alloc ?_ _)); refine blk_put (cs := #[.int .i64 ((rd_T41 l0 0).f0), .int .i64 ((rd_T41 l0 0).f1), .int .i64 0, .int .i64 0]) ?_ 2 _ rfl; (with_reducible repeat (first | refine blk_drewN ?_ _ | refine blk_drew ?_ | refine blk_alloc ?_ _)); refine blk_put (cs := #[.int .i64 ((rd_T41 l0 0).f0), .int .i64 0, .int .i64 0, .int .i64 0]) ?_ 1 _ rfl; (with_reducible repeat (first | refine blk_drewN ?_ _ | refine blk_drew ?_ | refine blk_alloc ?_ _)); refine blk_put (cs := #[.int .i64 0, .int .i64 0, .int .i64 0, .int .i64 0]) ?_ 0 _ rfl; (with_reducible repeat (first | refine blk_drewN ?_ _ | refine blk_drew ?_ | refine blk_alloc ?_ _)); exact BK203.out⟩, ⟨bX⟩⟩
 clear H'
 try clear c2
 try clear p2
 try clear q2
 try clear hx2
 try clear qi2
 try clear c3
 try clear c4
 try clear c4b0
 try clear c4b1
 try clear hx205_0
 try clear hx205_1
 try clear hx206_0
 try clear hx206_1
 try clear p205
 try clear p206
 try clear q205
 try clear q206
 obtain ⟨x19_1, x204000_1, x204001_1, x204002_1, x204003_1, rfl, HA, HK1, BK203, HB⟩ := hrel
 cases gk with
 | zero => exact absurd HA.out (by simp [poly_Bounds.l0])
 | succ k1 =>
  have H := HA.out
  clear HA
  simp only [poly_Bounds.l0] at H
  by_cases c12 : x19_1 < (l0.length : Int)
  rw [if_pos c12] at H
  have c12b0 : decide (x19_1 < (l0.length : Int)) = true := decide_eq_true c12
  clear c12
  by_cases c13 : 0 ≤ x19_1
  rw [if_pos c13] at H
  have c13b0 : decide (0 ≤ x19_1) = true := decide_eq_true c13
  clear c13
  by_cases c14 : x19_1 < (l0.length : Int)
  rw [if_pos c14] at H
  have c14b0 : decide (x19_1 < (l0.length : Int)) = true := decide_eq_true c14
  clear c14
  obtain ⟨ji15, hji15⟩ : ∃ j_ : Int, (mn x204000_1 ((rd_T41 l0 x19_1).f0)) = j_ := ⟨_, rfl⟩
  replace H : (poly_Bounds.l0 k1 l0 (l0.length : Int) (wrap64 (x19_1 + 1)) ji15 (mn x204001_1 ((rd_T41 l0 x19_1).f1)) (mx x204002_1 ((rd_T41 l0 x19_1).f0)) (mx x204003_1 ((rd_T41 l0 x19_1).f1))) = some (r1, r2, r3, r4, r5) := by first | (rw [hji15] at H; exact H) | (simp only [hji15] at H ⊢; exact H)
  have hji15_ : (if ((rd_T41 l0 x19_1).f0) < x204000_1 then ((rd_T41 l0 x19_1).f0) else x204000_1) = ji15 := hji15
  obtain ⟨ji16, hji16⟩ : ∃ j_ : Int, (mn x204001_1 ((rd_T41 l0 x19_1).f1)) = j_ := ⟨_, rfl⟩
  replace H : (poly_Bounds.l0 k1 l0 (l0.length : Int) (wrap64 (x19_1 + 1)) ji15 ji16 (mx x204002_1 ((rd_T41 l0 x19_1).f0)) (mx x204003_1 ((rd_T41 l0 x19_1).f1))) = some (r1, r2, r3, r4, r5) := by first | (rw [hji16] at H; exact H) | (simp only [hji16] at H ⊢; exact H)
  have hji16_ : (if ((rd_T41 l0 x19_1).f1) < x204001_1 then ((rd_T41 l0 x19_1).f1) else x204001_1) = ji16 := hji16
  obtain ⟨ji17, hji17⟩ : ∃ j_ : Int, (mx x204002_1 ((rd_T41 l0 x19_1).f0)) = j_ := ⟨_, rfl⟩
  replace H : (poly_Bounds.l0 k1 l0 (l0.length : Int) (wrap64 (x19_1 + 1)) ji15 ji16 ji17 (mx x204003_1 ((rd_T41 l0 x19_1).f1))) = some (r1, r2, r3, r4, r5) := by first | (rw [hji17] at H; exact H) | (simp only [hji17] at H ⊢; exact H)
  have hji17_ : (if x204002_1 < ((rd_T41 l0 x19_1).f0) then ((rd_T41 l0 x19_1).f0) else x204002_1) = ji17 := hji17
  obtain ⟨ji18, hji18⟩ : ∃ j_ : Int, (mx x204003_1 ((rd_T41 l0 x19_1).f1)) = j_ := ⟨_, rfl⟩
  replace H : (poly_Bounds.l0 k1 l0 (l0.length : Int) (wrap64 (x19_1 + 1)) ji15 ji16 ji17 ji18) = some (r1, r2, r3, r4, r5) := by first | (rw [hji18] at H; exact H) | (simp only [hji18] at H ⊢; exact H)
  have hji18_ : (if x204003_1 < ((rd_T41 l0 x19_1).f1) then ((rd_T41 l0 x19_1).f1) else x204003_1) = ji18 := hji18
  have H' := bA H
  clear H
  have p207 : 0 ≤ (x19_1 : Int) := bo
  have q207 : x19_1 < (l0.length : Int) := bo
  obtain ⟨ad207, e207, hx207_0, hx207_1⟩ := at_T41 HR0.out x19_1 p207 q207
  obtain rfl : ad205 = ad207 := (by injection e207)
  replace hx207_0 := bK hx207_0
  replace hx207_1 := bK hx207_1
  replace p207 := eq_true p207
  replace q207 := eq_true q207
  rotate_left
  rw [if_neg c14] at H
  exact absurd H (by simp)
  rw [if_neg c13] at H
  exact absurd H (by simp)
  rw [if_neg c12] at H
  have c12b0 : decide (x19_1 < (l0.length : Int)) = false := decide_eq_false c12
  clear c12
  simp only [Option.some.injEq, Prod.mk.injEq] at H
  obtain ⟨rfl, rfl, rfl, rfl, rfl⟩ := H
  obtain ⟨hcz23_0, hcz23_1, hcz23_2, hcz23_3, hfz23_0, hfz23_1, hfz23_2, hfz23_3⟩ := bc4 BK203
  rotate_left
  all_goals go_wp2_with (first | ((with_reducible refine gate_dst (N := 5) rfl ?_); refine bE (N := 5) (cs := #[.int .i64 0, .int .i64 0]) (t := 41) ?_; intro gb208 hg wz0 hbox hb; have BK208 := bA (hbox); have GW208 := bA (bZ hg); have GE208 := bA (bZ hg); have NB203_208 := bA (bL BK203 hg); have NB208_203 := bA (bG BK203 hg); replace BK203 := bA (bB BK203 hb); replace HB := bA (bS hb); clear hb hbox hg; have hz1 := NB208_203.out; have hz2 := NB203_208.out; obtain ⟨hz3, hz4, hz5, hz6⟩ := bc2 BK208; obtain ⟨hz7, hz8, hz9, hz10, hz11, hz12, hz13, hz14⟩ := bc4 BK203))
  ·go_roundg k1
   case measure => have := HK1.out; omega
   case rel => exact ⟨(wrap64 (x19_1 + 1)), (ji15), (ji16), (ji17), (ji18), bs, H', ⟨by have := HK1.out; omega⟩, ⟨by (with_reducible repeat (first | refine blk_drewN ?_ _ | refine blk_drew ?_ | refine blk_alloc ?_ _)); refine blk_put (cs := #[.int .i64 ji15, .int .i64 ji16, .int .i64 ji17, .int .i64 x204003_1]) ?_ 3 _ rfl; (with_reducible repeat (first | refine blk_drewN ?_ _ | refine blk_drew ?_ | refine blk_alloc ?_ _)); refine blk_put (cs := #[.int .i64 ji15, .int .i64 ji16, .int .i64 x204002_1, .int .i64 x204003_1]) ?_ 2 _ rfl; (with_reducible repeat (first | refine blk_drewN ?_ _ | refine blk_drew ?_ | refine blk_alloc ?_ _)); refine blk_put (cs := #[.int .i64 ji15, .int .i64 x204001_1, .int .i64 x204002_1, .int .i64 x204003_1]) ?_ 1 _ rfl; (with_reducible repeat (first | refine blk_drewN ?_ _ | refine blk_drew ?_ | refine blk_alloc ?_ _)); refine blk_put (cs := #[.int .i64 x204000_1, .int .i64 x204001_1, .int .i64 x204002_1, .int .i64 x204003_1]) ?_ 0 _ rfl; (repeat ((with_reducible repeat (first | refine blk_drewN ?_ _ | refine blk_drew ?_ | refine blk_alloc ?_ _)); refine blk_far ?_ NB203_208.out _)); (with_reducible repeat (first | refine blk_drewN ?_ _ | refine blk_drew ?_ | refine blk_alloc ?_ _)); exact BK203.out⟩, ⟨bX⟩⟩
  refine bodyPost_ret (results_ct rfl _ _ gb203 44 #[.int .i64 x204000_1, .int .i64 x204001_1, .int .i64 x204002_1, .int .i64 x204003_1] (0, 0) _ rfl (by (with_reducible repeat (first | refine blk_drewN ?_ _ | refine blk_drew ?_ | refine blk_alloc ?_ _)); refine blk_put (cs := #[.int .i64 x204000_1, .int .i64 x204001_1, .int .i64 x204002_1, .int .i64 x204003_1]) ?_ 3 _ rfl; (with_reducible repeat (first | refine blk_drewN ?_ _ | refine blk_drew ?_ | refine blk_alloc ?_ _)); refine blk_put (cs := #[.int .i64 x204000_1, .int .i64 x204001_1, .int .i64 x204002_1, .int .i64 x204003_1]) ?_ 2 _ rfl; (with_reducible repeat (first | refine blk_drewN ?_ _ | refine blk_drew ?_ | refine blk_alloc ?_ _)); refine blk_put (cs := #[.int .i64 x204000_1, .int .i64 x204001_1, .int .i64 x204002_1, .int .i64 x204003_1]) ?_ 1 _ rfl; (with_reducible repeat (first | refine blk_drewN ?_ _ | refine blk_drew ?_ | refine blk_alloc ?_ _)); refine blk_put (cs := #[.int .i64 x204000_1, .int .i64 x204001_1, .int .i64 x204002_1, .int .i64 x204003_1]) ?_ 0 _ rfl; (with_reducible repeat (first | refine blk_drewN ?_ _ | refine blk_drew ?_ | refine blk_alloc ?_ _)); exact BK203.out) Try.underlying44 rfl (by kernel_rfl)) rfl ?_
  exact bF
/-! ### wide_Of: function 121 -/
def wide_Of.f (a0 : Int) : Option (Int × Int) := some (a0 / 9223372036854775808, IntKind.u64.wrap (a0))
set_option maxHeartbeats 8000000 in
set_option maxRecDepth 100000 in
theorem wide_Of.calls (a0 : Int) (r1 : Int) (r2 : Int) (w : World) (h : wide_Of.f a0 = some (r1, r2)) :
  Calls Try.prog 121 #[.int .i64 a0] w fun e w' => e = .returned (.agg #[.int .i64 r1, .int .u64 r2]) ∧ Below w.heap.size w w' := by
 have hu85 := Try.underlying85
 have HB := bA (Below.refl w.heap.size w)
 have H : (some (a0 / 9223372036854775808, IntKind.u64.wrap (a0))) = some (r1, r2) := h
 clear h
 simp only [Option.some.injEq, Prod.mk.injEq] at H
 obtain ⟨rfl, rfl⟩ := H
 go_enter Try.func121, Try.ntmps121
 go_wp2_with (first | ((with_reducible refine gate_dst (N := 2) rfl ?_); refine bE (N := 2) (cs := #[.int .i64 0, .int .u64 0]) (t := 85) ?_; intro gb209 hg w2 hbox hb; have BK209 := bA (hbox); have GW209 := bA (bZ hg); have GE209 := bA (bZ hg); replace HB := bA (bS hb); clear hb hbox hg; obtain ⟨hcz3_0, hcz3_1, hfz3_0, hfz3_1⟩ := bc2 BK209))
 refine bodyPost_ret (results_cell_row rfl _ _ gb209 85 #[.int .i64 (a0 / 9223372036854775808), .int .u64 (IntKind.u64.wrap (a0))] (0, 0) _ rfl (by (with_reducible repeat (first | refine blk_drewN ?_ _ | refine blk_drew ?_ | refine blk_alloc ?_ _)); refine blk_put (cs := #[.int .i64 (a0 / 9223372036854775808), .int .u64 0]) ?_ 1 _ rfl; (with_reducible repeat (first | refine blk_drewN ?_ _ | refine blk_drew ?_ | refine blk_alloc ?_ _)); refine blk_put (cs := #[.int .i64 0, .int .u64 0]) ?_ 0 _ rfl; (with_reducible repeat (first | refine blk_drewN ?_ _ | refine blk_drew ?_ | refine blk_alloc ?_ _)); exact BK209.out) Try.underlying85 rfl (by kernel_rfl)) rfl ?_
 exact bF
/-! ### wide_Wide_Add: function 76 -/
def wide_Wide_Add.f (a0_0 : Int) (a0_1 : Int) (a1_0 : Int) (a1_1 : Int) : Option (Int × Int × Bool) := if (add64c a0_1 a1_1 0) ≤ 1 then (if (Go.bits .and .i64 (Go.bits .xor .i64 a0_0 (wrap64 (add64s (IntKind.u64.wrap (a0_0)) (IntKind.u64.wrap (a1_0)) (add64c a0_1 a1_1 0)))) (Go.bits .xor .i64 a1_0 (wrap64 (add64s (IntKind.u64.wrap (a0_0)) (IntKind.u64.wrap (a1_0)) (add64c a0_1 a1_1 0))))) < 0 then (some (0, 0, false)) else (some (wrap64 (add64s (IntKind.u64.wrap (a0_0)) (IntKind.u64.wrap (a1_0)) (add64c a0_1 a1_1 0)), add64s a0_1 a1_1 0, true))) else (none)
set_option maxHeartbeats 8000000 in
set_option maxRecDepth 100000 in
theorem wide_Wide_Add.calls (a0_0 : Int) (a0_1 : Int) (a1_0 : Int) (a1_1 : Int) (r1 : Int) (r2 : Int) (r3 : Bool) (w : World) (h : wide_Wide_Add.f a0_0 a0_1 a1_0 a1_1 = some (r1, r2, r3)) :
  Calls Try.prog 76 #[.agg #[.int .i64 a0_0, .int .u64 a0_1], .agg #[.int .i64 a1_0, .int .u64 a1_1]] w fun e w' => e = .returned (.tuple #[.agg #[.int .i64 r1, .int .u64 r2], .bool r3]) ∧ Below w.heap.size w w' := by
 have hu85 := Try.underlying85
 have HB := bA (Below.refl w.heap.size w)
 have H : (if (add64c a0_1 a1_1 0) ≤ 1 then (if (Go.bits .and .i64 (Go.bits .xor .i64 a0_0 (wrap64 (add64s (IntKind.u64.wrap (a0_0)) (IntKind.u64.wrap (a1_0)) (add64c a0_1 a1_1 0)))) (Go.bits .xor .i64 a1_0 (wrap64 (add64s (IntKind.u64.wrap (a0_0)) (IntKind.u64.wrap (a1_0)) (add64c a0_1 a1_1 0))))) < 0 then (some (0, 0, false)) else (some (wrap64 (add64s (IntKind.u64.wrap (a0_0)) (IntKind.u64.wrap (a1_0)) (add64c a0_1 a1_1 0)), add64s a0_1 a1_1 0, true))) else (none)) = some (r1, r2, r3) := h
 clear h
 by_cases c3 : (add64c a0_1 a1_1 0) ≤ 1
 rw [if_pos c3] at H
 have c3b0 : decide ((add64c a0_1 a1_1 0) ≤ 1) = true := decide_eq_true c3
 clear c3
 by_cases c4 : (Go.bits .and .i64 (Go.bits .xor .i64 a0_0 (wrap64 (add64s (IntKind.u64.wrap (a0_0)) (IntKind.u64.wrap (a1_0)) (add64c a0_1 a1_1 0)))) (Go.bits .xor .i64 a1_0 (wrap64 (add64s (IntKind.u64.wrap (a0_0)) (IntKind.u64.wrap (a1_0)) (add64c a0_1 a1_1 0))))) < 0
 rw [if_pos c4] at H
 have c4b0 : decide ((Go.bits .and .i64 (Go.bits .xor .i64 a0_0 (wrap64 (add64s (IntKind.u64.wrap (a0_0)) (IntKind.u64.wrap (a1_0)) (add64c a0_1 a1_1 0)))) (Go.bits .xor .i64 a1_0 (wrap64 (add64s (IntKind.u64.wrap (a0_0)) (IntKind.u64.wrap (a1_0)) (add64c a0_1 a1_1 0))))) < 0) = true := decide_eq_true c4
 clear c4
 simp only [Option.some.injEq, Prod.mk.injEq] at H
 obtain ⟨rfl, rfl, rfl⟩ := H
 rotate_left
 rw [if_neg c4] at H
 have c4b0 : decide ((Go.bits .and .i64 (Go.bits .xor .i64 a0_0 (wrap64 (add64s (IntKind.u64.wrap (a0_0)) (IntKind.u64.wrap (a1_0)) (add64c a0_1 a1_1 0)))) (Go.bits .xor .i64 a1_0 (wrap64 (add64s (IntKind.u64.wrap (a0_0)) (IntKind.u64.wrap (a1_0)) (add64c a0_1 a1_1 0))))) < 0) = false := decide_eq_false c4
 clear c4
 simp only [Option.some.injEq, Prod.mk.injEq] at H
 obtain ⟨rfl, rfl, rfl⟩ := H
 rotate_left
 rw [if_neg c3] at H
 exact absurd H (by simp)
 all_goals go_enter Try.func76, Try.ntmps76
 all_goals go_wp2_with (first | ((with_reducible refine gate_dst (N := 2) rfl ?_); refine bE (N := 2) (cs := #[.int .i64 a0_0, .int .u64 a0_1]) (t := 85) ?_; intro gb210 hg wz0 hbox hb; have BK210 := bA (hbox); have GW210 := bA (bZ hg); have GE210 := bA (bZ hg); replace HB := bA (bS hb); clear hb hbox hg) | ((with_reducible refine gate_dst (N := 3) rfl ?_); refine bE (N := 3) (cs := #[.int .i64 a1_0, .int .u64 a1_1]) (t := 85) ?_; intro gb211 hg wz1 hbox hb; have BK211 := bA (hbox); have GW211 := bA (bZ hg); have GE211 := bA (bZ hg); have NB210_211 := bA (bL BK210 hg); have NB211_210 := bA (bG BK210 hg); replace BK210 := bA (bB BK210 hb); replace HB := bA (bS hb); clear hb hbox hg) | ((with_reducible refine gate_dst (N := 4) rfl ?_); refine bE (N := 4) (cs := #[.int .i64 0, .int .u64 0]) (t := 85) ?_; intro gb212 hg wz2 hbox hb; have BK212 := bA (hbox); have GW212 := bA (bZ hg); have GE212 := bA (bZ hg); have NB210_212 := bA (bL BK210 hg); have NB212_210 := bA (bG BK210 hg); have NB211_212 := bA (bL BK211 hg); have NB212_211 := bA (bG BK211 hg); replace BK210 := bA (bB BK210 hb); replace BK211 := bA (bB BK211 hb); replace HB := bA (bS hb); clear hb hbox hg; have hz1 := NB210_211.out; have hz2 := NB211_210.out; have hz3 := NB210_212.out; have hz4 := NB212_210.out; obtain ⟨hz5, hz6, hz7, hz8⟩ := bc2 BK210; have hz9 := NB211_212.out; have hz10 := NB212_211.out; obtain ⟨hz11, hz12, hz13, hz14⟩ := bc2 BK211) | ((with_reducible refine gate_dst (N := 10) rfl ?_); refine bE (N := 10) (cs := #[.int .i64 0, .int .u64 0]) (t := 85) ?_; intro gb213 hg wz3 hbox hb; have BK213 := bA (hbox); have GW213 := bA (bZ hg); have GE213 := bA (bZ hg); have NB210_213 := bA (bL BK210 hg); have NB213_210 := bA (bG BK210 hg); have NB211_213 := bA (bL BK211 hg); have NB213_211 := bA (bG BK211 hg); have NB212_213 := bA (bL BK212 hg); have NB213_212 := bA (bG BK212 hg); replace BK210 := bA (bB BK210 hb); replace BK211 := bA (bB BK211 hb); replace BK212 := bA (bB BK212 hb); replace HB := bA (bS hb); clear hb hbox hg; have hz15 := NB213_210.out; have hz16 := NB210_213.out; have hz17 := NB213_211.out; have hz18 := NB211_213.out; have hz19 := NB213_212.out; have hz20 := NB212_213.out; obtain ⟨hz21, hz22, hz23, hz24⟩ := bc2 BK213; obtain ⟨hz25, hz26, hz7, hz8⟩ := bc2 BK210; obtain ⟨hz27, hz28, hz13, hz14⟩ := bc2 BK211; obtain ⟨hz29, hz30, hz31, hz32⟩ := bc2 BK212))
 ·refine bodyPost_ret (results_ct rfl _ _ gb212 85 #[.int .i64 0, .int .u64 0] (0, 0) _ rfl (by (with_reducible repeat (first | refine blk_drewN ?_ _ | refine blk_drew ?_ | refine blk_alloc ?_ _)); refine blk_put (cs := #[.int .i64 0, .int .u64 0]) ?_ 1 _ rfl; (with_reducible repeat (first | refine blk_drewN ?_ _ | refine blk_drew ?_ | refine blk_alloc ?_ _)); refine blk_put (cs := #[.int .i64 0, .int .u64 0]) ?_ 0 _ rfl; (repeat ((with_reducible repeat (first | refine blk_drewN ?_ _ | refine blk_drew ?_ | refine blk_alloc ?_ _)); refine blk_far ?_ NB212_213.out _)); (with_reducible repeat (first | refine blk_drewN ?_ _ | refine blk_drew ?_ | refine blk_alloc ?_ _)); exact BK212.out) Try.underlying85 rfl (by kernel_rfl)) rfl ?_
  exact bF
 refine bodyPost_ret (results_ct rfl _ _ gb212 85 #[.int .i64 (wrap64 (add64s (IntKind.u64.wrap (a0_0)) (IntKind.u64.wrap (a1_0)) (add64c a0_1 a1_1 0))), .int .u64 (add64s a0_1 a1_1 0)] (0, 0) _ rfl (by (with_reducible repeat (first | refine blk_drewN ?_ _ | refine blk_drew ?_ | refine blk_alloc ?_ _)); refine blk_put (cs := #[.int .i64 (wrap64 (add64s (IntKind.u64.wrap (a0_0)) (IntKind.u64.wrap (a1_0)) (add64c a0_1 a1_1 0))), .int .u64 0]) ?_ 1 _ rfl; (with_reducible repeat (first | refine blk_drewN ?_ _ | refine blk_drew ?_ | refine blk_alloc ?_ _)); refine blk_put (cs := #[.int .i64 0, .int .u64 0]) ?_ 0 _ rfl; (repeat ((with_reducible repeat (first | refine blk_drewN ?_ _ | refine blk_drew ?_ | refine blk_alloc ?_ _)); refine blk_far ?_ NB212_213.out _)); (with_reducible repeat (first | refine blk_drewN ?_ _ | refine blk_drew ?_ | refine blk_alloc ?_ _)); exact BK212.out) Try.underlying85 rfl (by kernel_rfl)) rfl ?_
 exact bF
/-! ### wide_Wide_Int: function 124 -/
def wide_Wide_Int.f (a0_0 : Int) (a0_1 : Int) : Option (Int × Bool) := (wide_Of.f (wrap64 (a0_1))).bind fun bt215 => (if (!(bt215.1 == a0_0) || (!(bt215.2 == a0_1))) = true then (some (0, false)) else (some (wrap64 (a0_1), true)))
set_option maxHeartbeats 8000000 in
set_option maxRecDepth 100000 in
theorem wide_Wide_Int.calls (a0_0 : Int) (a0_1 : Int) (r1 : Int) (r2 : Bool) (w : World) (h : wide_Wide_Int.f a0_0 a0_1 = some (r1, r2)) :
  Calls Try.prog 124 #[.agg #[.int .i64 a0_0, .int .u64 a0_1]] w fun e w' => e = .returned (.tuple #[.int .i64 r1, .bool r2]) ∧ Below w.heap.size w w' := by
 have hu85 := Try.underlying85
 have HB := bA (Below.refl w.heap.size w)
 have H : ((wide_Of.f (wrap64 (a0_1))).bind fun bt215 => (if (!(bt215.1 == a0_0) || (!(bt215.2 == a0_1))) = true then (some (0, false)) else (some (wrap64 (a0_1), true)))) = some (r1, r2) := h
 clear h
 replace H := Option.bind_eq_some_iff.mp H
 obtain ⟨⟨t215, t216⟩, A20, H⟩ := H
 replace H : (if (!(t215 == a0_0) || (!(t216 == a0_1))) = true then (some (0, false)) else (some (wrap64 (a0_1), true))) = some (r1, r2) := H
 have A2 := bA A20
 clear A20
 by_cases c3 : (!(t215 == a0_0) || (!(t216 == a0_1))) = true
 ·rw [if_pos c3] at H
  have c3b0 : (!(t215 == a0_0) || (!(t216 == a0_1))) = true := c3
  clear c3
  simp only [Option.some.injEq, Prod.mk.injEq] at H
  obtain ⟨rfl, rfl⟩ := H
  go_enter Try.func124, Try.ntmps124
  try go_wp2_with (first | ((with_reducible refine gate_dst (N := 1) rfl ?_); refine bE (N := 1) (cs := #[.int .i64 a0_0, .int .u64 a0_1]) (t := 85) ?_; intro gb214 hg w4 hbox hb; have BK214 := bA (hbox); have GW214 := bA (bZ hg); have GE214 := bA (bZ hg); replace HB := bA (bS hb); clear hb hbox hg; obtain ⟨hcz5_0, hcz5_1, hfz5_0, hfz5_1⟩ := bc2 BK214))
  replace BK214 := bA (blk_drew BK214.out)
  replace HB := bA (below_drew1 HB.out)
  refine start_ (n := 4) (S := fun w' => w'.cell? ⟨gb214, 0, none⟩ = some (.int .i64 a0_0) ∧ w'.cell? ⟨gb214, 1, none⟩ = some (.int .u64 a0_1)) (ds := []) #[false, false, false, false] (by kernel_rfl) rfl rfl ⟨bq BK214 0, bq BK214 1⟩ (fun hHeld => ?_)
  generalize w4.drew = w6 at BK214 HB hHeld ⊢
  refine pure_ (i := 0) (N := some 8) (v := ?_) (a' := ?_) #[true, false, false, false] rfl rfl (by kernel_rfl) (fun _ _ _ h => h) (Or.inl ⟨by rfl, ?_⟩) ?_ ?_
  rotate_left
  ·intro w'
   go_simp
   with_reducible rfl
  rotate_left
  ·simp only [Act.put, List.setIfInBounds_toArray, List.set_cons_zero, List.set_cons_succ, i64_w, i32_w]
   rfl
  refine take_ (i := 2) (N := some 10) (v := ?_) (a' := ?_) #[true, false, true, false] rfl rfl (by kernel_rfl) (fun _ _ _ h => h) (Or.inl ⟨by rfl, ?_⟩) hHeld ?_ ?_
  rotate_left
  ·rintro w' ⟨s0, s1⟩
   go_simp
   with_reducible rfl
  rotate_left
  ·simp only [Act.put, List.setIfInBounds_toArray, List.set_cons_zero, List.set_cons_succ, i64_w, i32_w]
   rfl
  refine one_ (i := 1) (N := some 9) #[true, true, true, false] rfl rfl (by kernel_rfl) (by decide) (fun K hK => ?_)
  refine goes_ Try.func121 (by kernel_rfl) rfl #[.int .i64 (wrap64 (a0_1))] (by rfl) rfl rfl (by (try simp only [List.map_toArray, List.map_cons, List.map_nil]); first | done | rfl | (simp only [List.length_drop, List.length_take]; rfl)) ?_
  with_reducible refine (wide_Of.calls (wrap64 (a0_1)) t215 t216 _ A2.out).mono ?_
  rintro e w7 ⟨rfl, hb⟩
  refine ⟨_, rfl, ?_⟩
  replace BK214 := bA (bB BK214 hb)
  replace HB := bA (bS hb)
  (try clear hb)
  refine hK.out _ _ ⟨bq BK214 0, bq BK214 1⟩ (fun hHeld => ?_)
  clear hK K
  refine bH ?_
  refine pure_ (i := 3) (N := some 11) (v := ?_) (a' := ?_) #[true, true, true, true] rfl rfl (by kernel_rfl) (fun _ _ _ h => h) (Or.inl ⟨by rfl, ?_⟩) ?_ ?_
  rotate_left
  ·intro w'
   go_simp
   with_reducible rfl
  rotate_left
  ·simp only [Act.put, List.setIfInBounds_toArray, List.set_cons_zero, List.set_cons_succ, i64_w, i32_w]
   rfl
  refine done_ (by kernel_rfl) ?_
  try go_wp2
  go_ret2
  exact bF
 rw [if_neg c3] at H
 have c3b0 : (!(t215 == a0_0) || (!(t216 == a0_1))) = false := by simpa using c3
 clear c3
 simp only [Option.some.injEq, Prod.mk.injEq] at H
 obtain ⟨rfl, rfl⟩ := H
 go_enter Try.func124, Try.ntmps124
 try go_wp2_with (first | ((with_reducible refine gate_dst (N := 1) rfl ?_); refine bE (N := 1) (cs := #[.int .i64 a0_0, .int .u64 a0_1]) (t := 85) ?_; intro gb214 hg w8 hbox hb; have BK214 := bA (hbox); have GW214 := bA (bZ hg); have GE214 := bA (bZ hg); replace HB := bA (bS hb); clear hb hbox hg; obtain ⟨hcz9_0, hcz9_1, hfz9_0, hfz9_1⟩ := bc2 BK214))
 replace BK214 := bA (blk_drew BK214.out)
 replace HB := bA (below_drew1 HB.out)
 refine start_ (n := 4) (S := fun w' => w'.cell? ⟨gb214, 0, none⟩ = some (.int .i64 a0_0) ∧ w'.cell? ⟨gb214, 1, none⟩ = some (.int .u64 a0_1)) (ds := []) #[false, false, false, false] (by kernel_rfl) rfl rfl ⟨bq BK214 0, bq BK214 1⟩ (fun hHeld => ?_)
 generalize w8.drew = w10 at BK214 HB hHeld ⊢
 refine pure_ (i := 0) (N := some 8) (v := ?_) (a' := ?_) #[true, false, false, false] rfl rfl (by kernel_rfl) (fun _ _ _ h => h) (Or.inl ⟨by rfl, ?_⟩) ?_ ?_
 rotate_left
 ·intro w'
  go_simp
  with_reducible rfl
 rotate_left
 ·simp only [Act.put, List.setIfInBounds_toArray, List.set_cons_zero, List.set_cons_succ, i64_w, i32_w]
  rfl
 refine take_ (i := 2) (N := some 10) (v := ?_) (a' := ?_) #[true, false, true, false] rfl rfl (by kernel_rfl) (fun _ _ _ h => h) (Or.inl ⟨by rfl, ?_⟩) hHeld ?_ ?_
 rotate_left
 ·rintro w' ⟨s0, s1⟩
  go_simp
  with_reducible rfl
 rotate_left
 ·simp only [Act.put, List.setIfInBounds_toArray, List.set_cons_zero, List.set_cons_succ, i64_w, i32_w]
  rfl
 refine one_ (i := 1) (N := some 9) #[true, true, true, false] rfl rfl (by kernel_rfl) (by decide) (fun K hK => ?_)
 refine goes_ Try.func121 (by kernel_rfl) rfl #[.int .i64 (wrap64 (a0_1))] (by rfl) rfl rfl (by (try simp only [List.map_toArray, List.map_cons, List.map_nil]); first | done | rfl | (simp only [List.length_drop, List.length_take]; rfl)) ?_
 with_reducible refine (wide_Of.calls (wrap64 (a0_1)) t215 t216 _ A2.out).mono ?_
 rintro e w11 ⟨rfl, hb⟩
 refine ⟨_, rfl, ?_⟩
 replace BK214 := bA (bB BK214 hb)
 replace HB := bA (bS hb)
 (try clear hb)
 refine hK.out _ _ ⟨bq BK214 0, bq BK214 1⟩ (fun hHeld => ?_)
 clear hK K
 refine bH ?_
 refine pure_ (i := 3) (N := some 11) (v := ?_) (a' := ?_) #[true, true, true, true] rfl rfl (by kernel_rfl) (fun _ _ _ h => h) (Or.inl ⟨by rfl, ?_⟩) ?_ ?_
 rotate_left
 ·intro w'
  go_simp
  with_reducible rfl
 rotate_left
 ·simp only [Act.put, List.setIfInBounds_toArray, List.set_cons_zero, List.set_cons_succ, i64_w, i32_w]
  rfl
 refine done_ (by kernel_rfl) ?_
 try go_wp2
 go_ret2
 exact bF
/-! ### fix_told: function 120 -/
def fix_told.f (a0_0 : Int) (a0_1 : Int) (a1 : Bool) : Option (Int × Bool) := if a1 = true then ((wide_Wide_Int.f a0_0 a0_1).bind fun bt218 => (some (bt218.1, bt218.2))) else (some (0, false))
set_option maxHeartbeats 8000000 in
set_option maxRecDepth 100000 in
theorem fix_told.calls (a0_0 : Int) (a0_1 : Int) (a1 : Bool) (r1 : Int) (r2 : Bool) (w : World) (h : fix_told.f a0_0 a0_1 a1 = some (r1, r2)) :
  Calls Try.prog 120 #[.agg #[.int .i64 a0_0, .int .u64 a0_1], .bool a1] w fun e w' => e = .returned (.tuple #[.int .i64 r1, .bool r2]) ∧ Below w.heap.size w w' := by
 have hu85 := Try.underlying85
 have HB := bA (Below.refl w.heap.size w)
 have H : (if a1 = true then ((wide_Wide_Int.f a0_0 a0_1).bind fun bt218 => (some (bt218.1, bt218.2))) else (some (0, false))) = some (r1, r2) := h
 clear h
 by_cases c3 : a1 = true
 subst c3
 rw [if_pos rfl] at H
 replace H := Option.bind_eq_some_iff.mp H
 obtain ⟨⟨t218, t219⟩, A40, H⟩ := H
 replace H : (some (t218, t219)) = some (r1, r2) := H
 have A4 := bA A40
 clear A40
 simp only [Option.some.injEq, Prod.mk.injEq] at H
 obtain ⟨rfl, rfl⟩ := H
 rotate_left
 replace c3 := Bool.eq_false_iff.mpr c3
 subst c3
 rw [if_neg bn] at H
 simp only [Option.some.injEq, Prod.mk.injEq] at H
 obtain ⟨rfl, rfl⟩ := H
 rotate_left
 all_goals go_enter Try.func120, Try.ntmps120
 all_goals go_wp2_with (first | ((with_reducible refine gate_dst (N := 2) rfl ?_); refine bE (N := 2) (cs := #[.int .i64 a0_0, .int .u64 a0_1]) (t := 85) ?_; intro gb217 hg wz0 hbox hb; have BK217 := bA (hbox); have GW217 := bA (bZ hg); have GE217 := bA (bZ hg); replace HB := bA (bS hb); clear hb hbox hg; obtain ⟨hz1, hz2, hz3, hz4⟩ := bc2 BK217) | ((first | ((with_reducible refine gate_callee (f := 124) rfl ?_); refine bC (some 9) Try.func124 #[.agg #[.int .i64 a0_0, .int .u64 a0_1]] ?_) | go_at_call 124); (with_reducible refine (wide_Wide_Int.calls a0_0 a0_1 t218 t219 _ A4.out).mono ?_); rintro e wz1 ⟨rfl, hb⟩; (first | refine ⟨_, rfl, ?_⟩ | skip); replace BK217 := bA (bB BK217 hb); replace HB := bA (bS hb); (try clear hb)))
 all_goals (go_ret2; exact bF)
/-! ### fix_Add: function 114 -/
def fix_Add.f (a0 : Int) (a1 : Int) : Option (Int × Bool) := (wide_Of.f a0).bind fun bt220 => ((wide_Of.f a1).bind fun bt222 => ((wide_Wide_Add.f bt220.1 bt220.2 bt222.1 bt222.2).bind fun bt224 => ((fix_told.f bt224.1 bt224.2.1 bt224.2.2).bind fun bt227 => (some (bt227.1, bt227.2)))))
set_option maxHeartbeats 8000000 in
set_option maxRecDepth 100000 in
theorem fix_Add.calls (a0 : Int) (a1 : Int) (r1 : Int) (r2 : Bool) (w : World) (h : fix_Add.f a0 a1 = some (r1, r2)) :
  Calls Try.prog 114 #[.int .i64 a0, .int .i64 a1] w fun e w' => e = .returned (.tuple #[.int .i64 r1, .bool r2]) ∧ Below w.heap.size w w' := by
 have HB := bA (Below.refl w.heap.size w)
 have H : ((wide_Of.f a0).bind fun bt220 => ((wide_Of.f a1).bind fun bt222 => ((wide_Wide_Add.f bt220.1 bt220.2 bt222.1 bt222.2).bind fun bt224 => ((fix_told.f bt224.1 bt224.2.1 bt224.2.2).bind fun bt227 => (some (bt227.1, bt227.2)))))) = some (r1, r2) := h
 clear h
 replace H := Option.bind_eq_some_iff.mp H
 obtain ⟨⟨t220, t221⟩, A30, H⟩ := H
 replace H : ((wide_Of.f a1).bind fun bt222 => ((wide_Wide_Add.f t220 t221 bt222.1 bt222.2).bind fun bt224 => ((fix_told.f bt224.1 bt224.2.1 bt224.2.2).bind fun bt227 => (some (bt227.1, bt227.2))))) = some (r1, r2) := H
 have A3 := bA A30
 clear A30
 replace H := Option.bind_eq_some_iff.mp H
 obtain ⟨⟨t222, t223⟩, A40, H⟩ := H
 replace H : ((wide_Wide_Add.f t220 t221 t222 t223).bind fun bt224 => ((fix_told.f bt224.1 bt224.2.1 bt224.2.2).bind fun bt227 => (some (bt227.1, bt227.2)))) = some (r1, r2) := H
 have A4 := bA A40
 clear A40
 replace H := Option.bind_eq_some_iff.mp H
 obtain ⟨⟨t224, t225, t226⟩, A50, H⟩ := H
 replace H : ((fix_told.f t224 t225 t226).bind fun bt227 => (some (bt227.1, bt227.2))) = some (r1, r2) := H
 have A5 := bA A50
 clear A50
 replace H := Option.bind_eq_some_iff.mp H
 obtain ⟨⟨t227, t228⟩, A60, H⟩ := H
 replace H : (some (t227, t228)) = some (r1, r2) := H
 have A6 := bA A60
 clear A60
 simp only [Option.some.injEq, Prod.mk.injEq] at H
 obtain ⟨rfl, rfl⟩ := H
 go_enter Try.func114, Try.ntmps114
 go_wp2_with (first | ((first | ((with_reducible refine gate_callee (f := 121) rfl ?_); refine bC (some 7) Try.func121 #[.int .i64 a0] ?_) | go_at_call 121); (with_reducible refine (wide_Of.calls a0 t220 t221 _ A3.out).mono ?_); rintro e w7 ⟨rfl, hb⟩; (first | refine ⟨_, rfl, ?_⟩ | skip); replace HB := bA (bS hb); (try clear hb)) | ((first | ((with_reducible refine gate_callee (f := 121) rfl ?_); refine bC (some 9) Try.func121 #[.int .i64 a1] ?_) | go_at_call 121); (with_reducible refine (wide_Of.calls a1 t222 t223 _ A4.out).mono ?_); rintro e w8 ⟨rfl, hb⟩; (first | refine ⟨_, rfl, ?_⟩ | skip); replace HB := bA (bS hb); (try clear hb)) | ((first | ((with_reducible refine gate_callee (f := 76) rfl ?_); refine bC (some 10) Try.func76 #[.agg #[.int .i64 t220, .int .u64 t221], .agg #[.int .i64 t222, .int .u64 t223]] ?_) | go_at_call 76); (with_reducible refine (wide_Wide_Add.calls t220 t221 t222 t223 t224 t225 t226 _ A5.out).mono ?_); rintro e w9 ⟨rfl, hb⟩; (first | refine ⟨_, rfl, ?_⟩ | skip); replace HB := bA (bS hb); (try clear hb)) | ((first | ((with_reducible refine gate_callee (f := 120) rfl ?_); refine bC (some 13) Try.func120 #[.agg #[.int .i64 t224, .int .u64 t225], .bool t226] ?_) | go_at_call 120); (with_reducible refine (fix_told.calls t224 t225 t226 t227 t228 _ A6.out).mono ?_); rintro e w10 ⟨rfl, hb⟩; (first | refine ⟨_, rfl, ?_⟩ | skip); replace HB := bA (bS hb); (try clear hb)))
 go_ret2
 exact bF
end Go.Proofs.Ytjmibjmlihmglaa.G
