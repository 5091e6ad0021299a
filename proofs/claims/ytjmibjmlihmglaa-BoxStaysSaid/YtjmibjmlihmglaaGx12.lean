-- Written by a program of this session out of the translation; Lean checks it.
import Derived.Test.YtjmibjmlihmglaaGx0
import Derived.Test.YtjmibjmlihmglaaGx5
import Derived.Test.YtjmibjmlihmglaaGx6
import Derived.Test.YtjmibjmlihmglaaGx9
import Derived.Test.YtjmibjmlihmglaaGx11
namespace Go.Proofs.Ytjmibjmlihmglaa.G
open Go.RowKit Go.Proofs.YtjmibjmlihmglaaW.PrintWords Go.Proofs.YtjmibjmlihmglaaW.PrintLast Go.Proofs.YtjmibjmlihmglaaW.PrintMore
attribute [local go_sem] max2_int min2_int max_two min_two max_three min_three max_four min_four   -- for this text's walks alone
set_option linter.unusedVariables false
set_option linter.unusedSimpArgs false

/-! ### slices_IndexFunc_Point_F_poly_far: function 1000005 -/
def slices_IndexFunc_Point_F_poly_far.l0 : Nat → List (S41) → Int → Int → Option (Int)
 | 0, _, _, _ => none
 | k + 1, x0, x7, x8 => if x8 < x7 then (if 0 ≤ x8 then (if x8 < (x0.length : Int) then ((poly_far.f ((rd_T41 x0 x8).f0) ((rd_T41 x0 x8).f1)).bind fun t272 => (if t272 = true then (some x8) else (slices_IndexFunc_Point_F_poly_far.l0 k x0 x7 (wrap64 (x8 + 1))))) else (none)) else (none)) else (some (-1))
def slices_IndexFunc_Point_F_poly_far.f (k : Nat) (l0 : List (S41))  : Option (Int) := slices_IndexFunc_Point_F_poly_far.l0 k l0 (l0.length : Int) 0
theorem slices_IndexFunc_Point_F_poly_far.mono_l : ∀ k, (∀ y0 y1 y2, LeO (slices_IndexFunc_Point_F_poly_far.l0 k y0 y1 y2) (slices_IndexFunc_Point_F_poly_far.l0 (k + 1) y0 y1 y2))
 | 0 => fun _ _ _ r h => by simp [slices_IndexFunc_Point_F_poly_far.l0] at h
 | k + 1 => by
  have ih0 := slices_IndexFunc_Point_F_poly_far.mono_l k
  ·intro y0 y1 y2
   unfold slices_IndexFunc_Point_F_poly_far.l0
   repeat' first
   | (with_reducible exact ih0 _ _ _)
   | (with_reducible exact LeO.refl _)
   | (with_reducible exact LeO.none _)
   | (with_reducible refine LeO.ite ?_ ?_)
   | (with_reducible refine LeO.bind ?_ (fun _ => ?_))
   | exact ih0 _ _ _
   | exact LeO.none _
   | refine LeO.ite ?_ ?_
   | refine LeO.bind ?_ (fun _ => ?_)
theorem slices_IndexFunc_Point_F_poly_far.mono : ∀ a0 k, LeO (slices_IndexFunc_Point_F_poly_far.f k a0) (slices_IndexFunc_Point_F_poly_far.f (k + 1) a0) := by
 intro a0 k
 have ih0 := slices_IndexFunc_Point_F_poly_far.mono_l k
 unfold slices_IndexFunc_Point_F_poly_far.f
 repeat' first
   | (with_reducible exact ih0 _ _ _)
   | (with_reducible exact LeO.refl _)
   | (with_reducible exact LeO.none _)
   | (with_reducible refine LeO.ite ?_ ?_)
   | (with_reducible refine LeO.bind ?_ (fun _ => ?_))
   | exact ih0 _ _ _
   | exact LeO.none _
   | refine LeO.ite ?_ ?_
   | refine LeO.bind ?_ (fun _ => ?_)
set_option maxHeartbeats 8000000 in
set_option maxRecDepth 100000 in
theorem slices_IndexFunc_Point_F_poly_far.calls (k : Nat) (A0 : Option Addr) (c0 : Nat) (l0 : List (S41))  (r : Int) (w : World) (hr0 : Kd.C k41 w A0 l0.length l0) (hc0 : l0.length ≤ c0) (h : slices_IndexFunc_Point_F_poly_far.f k l0 = some r) :
  Calls Try.prog 102 #[.slice A0 l0.length c0, .func (.func 72) #[] #[]] w fun e w' => e = .returned (.int .i64 r) ∧ Below w.heap.size w w' := by
 have hu41 := Try.underlying41
 have HR0 := bA hr0
 have HC0 := bA hc0
 clear hr0 hc0
 have HB := bA (Below.refl w.heap.size w)
 have H : (slices_IndexFunc_Point_F_poly_far.l0 k l0 (l0.length : Int) 0) = some r := h
 clear h
 have H' := bA H
 clear H
 go_enter Try.func102, Try.ntmps102
 go_wp2
 go_loopg [8] k (fun kq v8 w' => ∃ (x8_1 : Int), v8 = .int .i64 x8_1 ∧ Aside0 (slices_IndexFunc_Point_F_poly_far.l0 kq l0 (l0.length : Int) x8_1 = some r) ∧ Aside0 (kq ≤ k) ∧ Aside0 (Below w.heap.size w w'))
 case atStart => exact ⟨(0), bs, H', ⟨Nat.le_refl _⟩, ⟨bX⟩⟩
 clear H'
 try clear c1
 try clear p2
 obtain ⟨x8_1, rfl, HA, HK1, HB⟩ := hrel
 cases gk with
 | zero => exact absurd HA.out (by simp [slices_IndexFunc_Point_F_poly_far.l0])
 | succ k1 =>
  have H := HA.out
  clear HA
  simp only [slices_IndexFunc_Point_F_poly_far.l0] at H
  by_cases c3 : x8_1 < (l0.length : Int)
  rw [if_pos c3] at H
  have c3b0 : decide (x8_1 < (l0.length : Int)) = true := decide_eq_true c3
  clear c3
  by_cases c4 : 0 ≤ x8_1
  rw [if_pos c4] at H
  have c4b0 : decide (0 ≤ x8_1) = true := decide_eq_true c4
  clear c4
  by_cases c5 : x8_1 < (l0.length : Int)
  rw [if_pos c5] at H
  have c5b0 : decide (x8_1 < (l0.length : Int)) = true := decide_eq_true c5
  clear c5
  replace H := Option.bind_eq_some_iff.mp H
  obtain ⟨t272, A60, H⟩ := H
  have A6 := bA A60
  clear A60
  by_cases c7 : t272 = true
  subst c7
  rw [if_pos rfl] at H
  obtain rfl := Option.some.inj H
  have p271 : 0 ≤ (x8_1 : Int) := bo
  have q271 : x8_1 < (l0.length : Int) := bo
  obtain ⟨ad271, e271, hx271_0, hx271_1⟩ := at_T41 HR0.out x8_1 p271 q271
  cases e271
  replace hx271_0 := bK hx271_0
  replace hx271_1 := bK hx271_1
  replace p271 := eq_true p271
  replace q271 := eq_true q271
  rotate_left
  replace c7 := Bool.eq_false_iff.mpr c7
  subst c7
  rw [if_neg bn] at H
  have H' := bA H
  clear H
  have p271 : 0 ≤ (x8_1 : Int) := bo
  have q271 : x8_1 < (l0.length : Int) := bo
  obtain ⟨ad271, e271, hx271_0, hx271_1⟩ := at_T41 HR0.out x8_1 p271 q271
  cases e271
  replace hx271_0 := bK hx271_0
  replace hx271_1 := bK hx271_1
  replace p271 := eq_true p271
  replace q271 := eq_true q271
  rotate_left
  rw [if_neg c5] at H
  exact absurd H (by simp)
  rw [if_neg c4] at H
  exact absurd H (by simp)
  rw [if_neg c3] at H
  have c3b0 : decide (x8_1 < (l0.length : Int)) = false := decide_eq_false c3
  clear c3
  obtain rfl := Option.some.inj H
  rotate_left
  all_goals go_wp2_with (first | (go_at_call 72; (with_reducible refine (poly_far.calls ((rd_T41 l0 x8_1).f0) ((rd_T41 l0 x8_1).f1) true _ A6.out).mono ?_); rintro e wz0 ⟨rfl, hb⟩; replace HB := bA (bS hb); (try clear hb)) | (go_at_call 72; (with_reducible refine (poly_far.calls ((rd_T41 l0 x8_1).f0) ((rd_T41 l0 x8_1).f1) false _ A6.out).mono ?_); rintro e wz0 ⟨rfl, hb⟩; replace HB := bA (bS hb); (try clear hb)))
  ·go_ret
   exact bF
  ·go_roundg k1
   case measure => have := HK1.out; omega
   case rel => exact ⟨(wrap64 (x8_1 + 1)), bs, H', ⟨by have := HK1.out; omega⟩, ⟨bX⟩⟩
  go_ret
  exact bF
/-! ### slices_ContainsFunc_Point_F_poly_far: function 1000002 -/
def slices_ContainsFunc_Point_F_poly_far.f (k : Nat) (l0 : List (S41))  : Option (Bool) := (slices_IndexFunc_Point_F_poly_far.f k l0).bind fun t273 => (some (decide (t273 ≥ 0)))
theorem slices_ContainsFunc_Point_F_poly_far.mono : ∀ a0 k, LeO (slices_ContainsFunc_Point_F_poly_far.f k a0) (slices_ContainsFunc_Point_F_poly_far.f (k + 1) a0) := by
 intro a0 k
 unfold slices_ContainsFunc_Point_F_poly_far.f
 repeat' first
   | (with_reducible exact slices_IndexFunc_Point_F_poly_far.mono _ _)
   | (with_reducible exact LeO.refl _)
   | (with_reducible exact LeO.none _)
   | (with_reducible refine LeO.ite ?_ ?_)
   | (with_reducible refine LeO.bind ?_ (fun _ => ?_))
   | exact slices_IndexFunc_Point_F_poly_far.mono _ _
   | exact LeO.none _
   | refine LeO.ite ?_ ?_
   | refine LeO.bind ?_ (fun _ => ?_)
set_option maxHeartbeats 8000000 in
set_option maxRecDepth 100000 in
theorem slices_ContainsFunc_Point_F_poly_far.calls (k : Nat) (A0 : Option Addr) (c0 : Nat) (l0 : List (S41))  (r : Bool) (w : World) (hr0 : Kd.C k41 w A0 l0.length l0) (hc0 : l0.length ≤ c0) (h : slices_ContainsFunc_Point_F_poly_far.f k l0 = some r) :
  Calls Try.prog 65 #[.slice A0 l0.length c0, .func (.func 72) #[] #[]] w fun e w' => e = .returned (.bool r) ∧ Below w.heap.size w w' := by
 have HR0 := bA hr0
 have HC0 := bA hc0
 clear hr0 hc0
 have HB := bA (Below.refl w.heap.size w)
 have H : ((slices_IndexFunc_Point_F_poly_far.f k l0).bind fun t273 => (some (decide (t273 ≥ 0)))) = some r := h
 clear h
 replace H := Option.bind_eq_some_iff.mp H
 obtain ⟨t273, A30, H⟩ := H
 have A3 := bA A30
 clear A30
 obtain rfl := Option.some.inj H
 go_enter Try.func65, Try.ntmps65
 go_wp2_with (first | ((first | ((with_reducible refine gate_callee (f := 102) rfl ?_); refine bC (some 7) Try.func102 #[.slice A0 l0.length c0, .func (.func 72) #[] #[]] ?_) | go_at_call 102); (with_reducible refine (slices_IndexFunc_Point_F_poly_far.calls k _ _ l0  t273 _ ?side1 ?side2 A3.out).mono ?_); (case side1 => repeat (first | exact HR0.out | (with_reducible refine Kd.C_alloc ?_ _) | (with_reducible refine Kd.C_drewN ?_ _) | (with_reducible refine Kd.C_drew ?_))); (case side2 => exact HC0.out); rintro e w4 ⟨rfl, hb⟩; (first | refine ⟨_, rfl, ?_⟩ | skip); replace HB := bA (bS hb); (try clear hb)))
 go_ret
 exact bF
/-! ### poly_Right: function 31 -/
def poly_Right.f (k : Nat) (l0 : List (S41)) : Option (Bool) := (poly_Simple.f k l0).bind fun t274 => (if t274 = true then ((slices_ContainsFunc_Point_F_poly_far.f k l0).bind fun t275 => (some (!t275))) else (some false))
theorem poly_Right.mono : ∀ a0 k, LeO (poly_Right.f k a0) (poly_Right.f (k + 1) a0) := by
 intro a0 k
 unfold poly_Right.f
 repeat' first
   | (with_reducible exact poly_Simple.mono _ _)
   | (with_reducible exact slices_ContainsFunc_Point_F_poly_far.mono _ _)
   | (with_reducible exact LeO.refl _)
   | (with_reducible exact LeO.none _)
   | (with_reducible refine LeO.ite ?_ ?_)
   | (with_reducible refine LeO.bind ?_ (fun _ => ?_))
   | exact poly_Simple.mono _ _
   | exact slices_ContainsFunc_Point_F_poly_far.mono _ _
   | exact LeO.none _
   | refine LeO.ite ?_ ?_
   | refine LeO.bind ?_ (fun _ => ?_)
set_option maxHeartbeats 8000000 in
set_option maxRecDepth 100000 in
theorem poly_Right.calls (k : Nat) (A0 : Option Addr) (c0 : Nat) (l0 : List (S41)) (r : Bool) (w : World) (hr0 : Kd.C k41 w A0 l0.length l0) (hc0 : l0.length ≤ c0) (h : poly_Right.f k l0 = some r) :
  Calls Try.prog 31 #[.slice A0 l0.length c0] w fun e w' => e = .returned (.bool r) ∧ Below w.heap.size w w' := by
 have HR0 := bA hr0
 have HC0 := bA hc0
 clear hr0 hc0
 have HB := bA (Below.refl w.heap.size w)
 have H : ((poly_Simple.f k l0).bind fun t274 => (if t274 = true then ((slices_ContainsFunc_Point_F_poly_far.f k l0).bind fun t275 => (some (!t275))) else (some false))) = some r := h
 clear h
 replace H := Option.bind_eq_some_iff.mp H
 obtain ⟨t274, A20, H⟩ := H
 have A2 := bA A20
 clear A20
 by_cases c3 : t274 = true
 subst c3
 rw [if_pos rfl] at H
 replace H := Option.bind_eq_some_iff.mp H
 obtain ⟨t275, A40, H⟩ := H
 have A4 := bA A40
 clear A40
 obtain rfl := Option.some.inj H
 rotate_left
 replace c3 := Bool.eq_false_iff.mpr c3
 subst c3
 rw [if_neg bn] at H
 obtain rfl := Option.some.inj H
 rotate_left
 all_goals go_enter Try.func31, Try.ntmps31
 all_goals go_wp2_with (first | ((first | ((with_reducible refine gate_callee (f := 29) rfl ?_); refine bC (some 4) Try.func29 #[.slice A0 l0.length c0] ?_) | go_at_call 29); (with_reducible refine (poly_Simple.calls k _ _ l0 true _ ?side1 ?side2 A2.out).mono ?_); (case side1 => repeat (first | exact HR0.out | (with_reducible refine Kd.C_alloc ?_ _) | (with_reducible refine Kd.C_drewN ?_ _) | (with_reducible refine Kd.C_drew ?_))); (case side2 => exact HC0.out); rintro e wz0 ⟨rfl, hb⟩; (first | refine ⟨_, rfl, ?_⟩ | skip); replace HB := bA (bS hb); (try clear hb)) | (go_at_call 65; (with_reducible refine (slices_ContainsFunc_Point_F_poly_far.calls k _ _ l0  t275 _ ?side1 ?side2 A4.out).mono ?_); (case side1 => exact bQ HR0); (case side2 => exact HC0.out); rintro e wz1 ⟨rfl, hb⟩; replace HB := bA (bS hb); (try clear hb)) | ((first | ((with_reducible refine gate_callee (f := 29) rfl ?_); refine bC (some 4) Try.func29 #[.slice A0 l0.length c0] ?_) | go_at_call 29); (with_reducible refine (poly_Simple.calls k _ _ l0 false _ ?side1 ?side2 A2.out).mono ?_); (case side1 => repeat (first | exact HR0.out | (with_reducible refine Kd.C_alloc ?_ _) | (with_reducible refine Kd.C_drewN ?_ _) | (with_reducible refine Kd.C_drew ?_))); (case side2 => exact HC0.out); rintro e wz0 ⟨rfl, hb⟩; (first | refine ⟨_, rfl, ?_⟩ | skip); replace HB := bA (bS hb); (try clear hb)))
 all_goals (go_ret; exact bF)
/-! ### poly_Side: function 32 -/
mutual
def poly_Side.j0 : Nat → List (S41) → Bool → Int → Int → Option (Int)
 | 0, _, _, _, _ => none
 | k + 1, x0, x16, x277000, x277001 => if x16 = true then (some (-1)) else (poly_Side.l0 k x0 (-1) (x0.length : Int) 0 x277000 x277001)
def poly_Side.l0 : Nat → List (S41) → Int → Int → Int → Int → Int → Option (Int)
 | 0, _, _, _, _, _, _ => none
 | k + 1, x0, x5, x18, x19, x277000, x277001 => if x19 < x18 then ((poly_edge.f x0 x19).bind fun bt279 => ((point_On.f k x277000 x277001 bt279.1 bt279.2.1 bt279.2.2.1 bt279.2.2.2).bind fun t285 => (if t285 = true then (some 0) else (if bt279.2.1 > bt279.2.2.2 then (if bt279.2.2.2 ≤ x277001 then (if x277001 < bt279.2.1 then ((point_Turn.f k bt279.2.2.1 bt279.2.2.2 bt279.1 bt279.2.1 x277000 x277001).bind fun t286 => (if t286 > 0 then (poly_Side.l0 k x0 (wrap64 (-x5)) x18 (wrap64 (x19 + 1)) x277000 x277001) else (poly_Side.l0 k x0 x5 x18 (wrap64 (x19 + 1)) x277000 x277001))) else (poly_Side.l0 k x0 x5 x18 (wrap64 (x19 + 1)) x277000 x277001)) else (poly_Side.l0 k x0 x5 x18 (wrap64 (x19 + 1)) x277000 x277001)) else (if bt279.2.1 ≤ x277001 then (if x277001 < bt279.2.2.2 then ((point_Turn.f k bt279.1 bt279.2.1 bt279.2.2.1 bt279.2.2.2 x277000 x277001).bind fun t287 => (if t287 > 0 then (poly_Side.l0 k x0 (wrap64 (-x5)) x18 (wrap64 (x19 + 1)) x277000 x277001) else (poly_Side.l0 k x0 x5 x18 (wrap64 (x19 + 1)) x277000 x277001))) else (poly_Side.l0 k x0 x5 x18 (wrap64 (x19 + 1)) x277000 x277001)) else (poly_Side.l0 k x0 x5 x18 (wrap64 (x19 + 1)) x277000 x277001)))))) else (some x5)
end
def poly_Side.f (k : Nat) (l0 : List (S41)) (a1_0 : Int) (a1_1 : Int) : Option (Int) := (poly_Right.f k l0).bind fun t277 => (if t277 = true then ((point_Right.f a1_0 a1_1).bind fun t278 => (poly_Side.j0 k l0 (!t278) a1_0 a1_1)) else (poly_Side.j0 k l0 true a1_0 a1_1))
theorem poly_Side.mono_l : ∀ k, (∀ y0 y1 y2 y3, LeO (poly_Side.j0 k y0 y1 y2 y3) (poly_Side.j0 (k + 1) y0 y1 y2 y3)) ∧ (∀ y0 y1 y2 y3 y4 y5, LeO (poly_Side.l0 k y0 y1 y2 y3 y4 y5) (poly_Side.l0 (k + 1) y0 y1 y2 y3 y4 y5))
 | 0 => ⟨fun _ _ _ _ r h => by simp [poly_Side.j0] at h, fun _ _ _ _ _ _ r h => by simp [poly_Side.l0] at h⟩
 | k + 1 => by
  obtain ⟨ih0, ih1⟩ := poly_Side.mono_l k
  refine ⟨?_, ?_⟩
  ·intro y0 y1 y2 y3
   unfold poly_Side.j0
   repeat' first
   | (with_reducible exact ih0 _ _ _ _)
   | (with_reducible exact ih1 _ _ _ _ _ _)
   | (with_reducible exact point_On.mono _ _ _ _ _ _ _)
   | (with_reducible exact point_Turn.mono _ _ _ _ _ _ _)
   | (with_reducible exact poly_Right.mono _ _)
   | (with_reducible exact LeO.refl _)
   | (with_reducible exact LeO.none _)
   | (with_reducible refine LeO.ite ?_ ?_)
   | (with_reducible refine LeO.bind ?_ (fun _ => ?_))
   | exact ih0 _ _ _ _
   | exact ih1 _ _ _ _ _ _
   | exact point_On.mono _ _ _ _ _ _ _
   | exact point_Turn.mono _ _ _ _ _ _ _
   | exact poly_Right.mono _ _
   | exact LeO.none _
   | refine LeO.ite ?_ ?_
   | refine LeO.bind ?_ (fun _ => ?_)
  ·intro y0 y1 y2 y3 y4 y5
   unfold poly_Side.l0
   repeat' first
   | (with_reducible exact ih0 _ _ _ _)
   | (with_reducible exact ih1 _ _ _ _ _ _)
   | (with_reducible exact point_On.mono _ _ _ _ _ _ _)
   | (with_reducible exact point_Turn.mono _ _ _ _ _ _ _)
   | (with_reducible exact poly_Right.mono _ _)
   | (with_reducible exact LeO.refl _)
   | (with_reducible exact LeO.none _)
   | (with_reducible refine LeO.ite ?_ ?_)
   | (with_reducible refine LeO.bind ?_ (fun _ => ?_))
   | exact ih0 _ _ _ _
   | exact ih1 _ _ _ _ _ _
   | exact point_On.mono _ _ _ _ _ _ _
   | exact point_Turn.mono _ _ _ _ _ _ _
   | exact poly_Right.mono _ _
   | exact LeO.none _
   | refine LeO.ite ?_ ?_
   | refine LeO.bind ?_ (fun _ => ?_)
theorem poly_Side.mono : ∀ a0 a1 a2 k, LeO (poly_Side.f k a0 a1 a2) (poly_Side.f (k + 1) a0 a1 a2) := by
 intro a0 a1 a2 k
 obtain ⟨ih0, ih1⟩ := poly_Side.mono_l k
 unfold poly_Side.f
 repeat' first
   | (with_reducible exact ih0 _ _ _ _)
   | (with_reducible exact ih1 _ _ _ _ _ _)
   | (with_reducible exact point_On.mono _ _ _ _ _ _ _)
   | (with_reducible exact point_Turn.mono _ _ _ _ _ _ _)
   | (with_reducible exact poly_Right.mono _ _)
   | (with_reducible exact LeO.refl _)
   | (with_reducible exact LeO.none _)
   | (with_reducible refine LeO.ite ?_ ?_)
   | (with_reducible refine LeO.bind ?_ (fun _ => ?_))
   | exact ih0 _ _ _ _
   | exact ih1 _ _ _ _ _ _
   | exact point_On.mono _ _ _ _ _ _ _
   | exact point_Turn.mono _ _ _ _ _ _ _
   | exact poly_Right.mono _ _
   | exact LeO.none _
   | refine LeO.ite ?_ ?_
   | refine LeO.bind ?_ (fun _ => ?_)
set_option maxHeartbeats 8000000 in
set_option maxRecDepth 100000 in
theorem poly_Side.calls (k : Nat) (A0 : Option Addr) (c0 : Nat) (l0 : List (S41)) (a1_0 : Int) (a1_1 : Int) (r : Int) (w : World) (hr0 : Kd.C k41 w A0 l0.length l0) (hc0 : l0.length ≤ c0) (h : poly_Side.f k l0 a1_0 a1_1 = some r) :
  Calls Try.prog 32 #[.slice A0 l0.length c0, .agg #[.int .i64 a1_0, .int .i64 a1_1]] w fun e w' => e = .returned (.int .i64 r) ∧ Below w.heap.size w w' := by
 have hu41 := Try.underlying41
 have HR0 := bA hr0
 have HC0 := bA hc0
 clear hr0 hc0
 have HB := bA (Below.refl w.heap.size w)
 have H : ((poly_Right.f k l0).bind fun t277 => (if t277 = true then ((point_Right.f a1_0 a1_1).bind fun t278 => (poly_Side.j0 k l0 (!t278) a1_0 a1_1)) else (poly_Side.j0 k l0 true a1_0 a1_1))) = some r := h
 clear h
 have HC3 := bA H
 clear H
 go_enter Try.func32, Try.ntmps32
 go_upto_region 1 with (first | ((with_reducible refine gate_dst (N := 3) rfl ?_); refine bE (N := 3) (cs := #[.int .i64 a1_0, .int .i64 a1_1]) (t := 41) ?_; intro gb276 hg w4 hbox hb; have n0_ := bA (bS hb); have n1_ := bA (hbox); have n2_ := bA (bZ hg); have n3_ := bA (bZ hg); clear HB; have HB := n0_; have BK276 := n1_; have GW276 := n2_; have GE276 := n3_; clear n0_ n1_ n2_ n3_; clear hb hbox hg))
 (try simp only [Act.put, List.setIfInBounds_toArray, List.set_cons_zero, List.set_cons_succ])
 go_cut [16] (fun v16 wc => ∃ (kq : Nat) (x16_2 : Bool), v16 = .bool x16_2 ∧ Aside0 (poly_Side.j0 kq l0 x16_2 a1_0 a1_1 = some r) ∧ Aside0 (kq ≤ k) ∧ Aside0 (wc.heap[gb276]? = some (.cells #[.int .i64 a1_0, .int .i64 a1_1] 41 (0, 0))) ∧ Aside0 (Below w.heap.size w wc))
 case first =>
  have H := HC3.out
  clear HC3
  replace H := Option.bind_eq_some_iff.mp H
  obtain ⟨t277, A50, H⟩ := H
  have A5 := bA A50
  clear A50
  by_cases c6 : t277 = true
  subst c6
  rw [if_pos rfl] at H
  replace H := Option.bind_eq_some_iff.mp H
  obtain ⟨t278, A70, H⟩ := H
  have A7 := bA A70
  clear A70
  have H' := bA H
  clear H
  rotate_left
  replace c6 := Bool.eq_false_iff.mpr c6
  subst c6
  rw [if_neg bn] at H
  have H' := bA H
  clear H
  rotate_left
  all_goals go_wp2_with (first | ((first | ((with_reducible refine gate_callee (f := 31) rfl ?_); refine bC (some 10) Try.func31 #[.slice A0 l0.length c0] ?_) | go_at_call 31); (with_reducible refine (poly_Right.calls k _ _ l0 true _ ?side1 ?side2 A5.out).mono ?_); (case side1 => exact bQ HR0); (case side2 => exact HC0.out); rintro e wz0 ⟨rfl, hb⟩; (first | refine ⟨_, rfl, ?_⟩ | skip); replace BK276 := bA (bB BK276 hb); replace HB := bA (bS hb); (try clear hb); obtain ⟨hz1, hz2, hz3, hz4⟩ := bc2 BK276) | (go_at_call 67; (with_reducible refine (point_Right.calls a1_0 a1_1 t278 _ A7.out).mono ?_); rintro e wz1 ⟨rfl, hb⟩; replace BK276 := bA (bB BK276 hb); replace HB := bA (bS hb); (try clear hb)) | ((first | ((with_reducible refine gate_callee (f := 31) rfl ?_); refine bC (some 10) Try.func31 #[.slice A0 l0.length c0] ?_) | go_at_call 31); (with_reducible refine (poly_Right.calls k _ _ l0 false _ ?side1 ?side2 A5.out).mono ?_); (case side1 => exact bQ HR0); (case side2 => exact HC0.out); rintro e wz0 ⟨rfl, hb⟩; (first | refine ⟨_, rfl, ?_⟩ | skip); replace BK276 := bA (bB BK276 hb); replace HB := bA (bS hb); (try clear hb)))
  ·go_meet
   case rel => exact ⟨_, (!t278), bs, H', ⟨by first | omega | exact Nat.le_refl _⟩, ⟨by (with_reducible repeat (first | refine blk_drewN ?_ _ | refine blk_drew ?_ | refine blk_alloc ?_ _)); exact BK276.out⟩, ⟨bX⟩⟩
  go_meet
  case rel => exact ⟨_, (true), bs, H', ⟨by first | omega | exact Nat.le_refl _⟩, ⟨by (with_reducible repeat (first | refine blk_drewN ?_ _ | refine blk_drew ?_ | refine blk_alloc ?_ _)); exact BK276.out⟩, ⟨bX⟩⟩
 clear HC3
 try clear p2
 try clear c3
 try clear c6
 try clear hcz9_0
 try clear hcz9_1
 try clear hfz9_0
 try clear hfz9_1
 obtain ⟨kq, x16_2, rfl, HA, HJ2, BK276, HB⟩ := hcut
 cases kq with
 | zero => exact absurd HA.out (by simp [poly_Side.j0])
 | succ kj2 =>
  have H := HA.out
  clear HA
  simp only [poly_Side.j0] at H
  by_cases c12 : x16_2 = true
  ·subst c12
   rw [if_pos rfl] at H
   obtain rfl := Option.some.inj H
   go_wp2
   go_ret
   exact bF
  replace c12 := Bool.eq_false_iff.mpr c12
  subst c12
  rw [if_neg bn] at H
  have H' := bA H
  clear H
  go_wp2
  go_loopg [5, 19] kj2 (fun kq v5 v19 w' => ∃ (x5_2 : Int) (x19_2 : Int), v5 = .int .i64 x5_2 ∧ v19 = .int .i64 x19_2 ∧ Aside0 (poly_Side.l0 kq l0 x5_2 (l0.length : Int) x19_2 a1_0 a1_1 = some r) ∧ Aside0 (kq ≤ kj2) ∧ Aside0 (w'.heap[gb276]? = some (.cells #[.int .i64 a1_0, .int .i64 a1_1] 41 (0, 0))) ∧ Aside0 (Below w.heap.size w w'))
  case atStart => exact ⟨((-1)), (0), bs, bs, H', ⟨Nat.le_refl _⟩, ⟨by (with_reducible repeat (first | refine blk_drewN ?_ _ | refine blk_drew ?_ | refine blk_alloc ?_ _)); exact BK276.out⟩, ⟨bX⟩⟩
  clear H'
  try clear c1
  try clear p2
  try clear c3
  try clear c6
  try clear c12
  try clear hcz9_0
  try clear hcz9_1
  try clear hfz9_0
  try clear hfz9_1
  try clear p2
  obtain ⟨x5_2, x19_2, rfl, rfl, HA, HK2, BK276, HB⟩ := hrel
  cases gk with
  | zero => exact absurd HA.out (by simp [poly_Side.l0])
  | succ k2 =>
   have H := HA.out
   clear HA
   simp only [poly_Side.l0] at H
   by_cases c13 : x19_2 < (l0.length : Int)
   rw [if_pos c13] at H
   have c13b0 : decide (x19_2 < (l0.length : Int)) = true := decide_eq_true c13
   clear c13
   replace H := Option.bind_eq_some_iff.mp H
   obtain ⟨⟨t279, t280, t281, t282⟩, A140, H⟩ := H
   replace H : ((point_On.f k2 a1_0 a1_1 t279 t280 t281 t282).bind fun t285 => (if t285 = true then (some 0) else (if t280 > t282 then (if t282 ≤ a1_1 then (if a1_1 < t280 then ((point_Turn.f k2 t281 t282 t279 t280 a1_0 a1_1).bind fun t286 => (if t286 > 0 then (poly_Side.l0 k2 l0 (wrap64 (-x5_2)) (l0.length : Int) (wrap64 (x19_2 + 1)) a1_0 a1_1) else (poly_Side.l0 k2 l0 x5_2 (l0.length : Int) (wrap64 (x19_2 + 1)) a1_0 a1_1))) else (poly_Side.l0 k2 l0 x5_2 (l0.length : Int) (wrap64 (x19_2 + 1)) a1_0 a1_1)) else (poly_Side.l0 k2 l0 x5_2 (l0.length : Int) (wrap64 (x19_2 + 1)) a1_0 a1_1)) else (if t280 ≤ a1_1 then (if a1_1 < t282 then ((point_Turn.f k2 t279 t280 t281 t282 a1_0 a1_1).bind fun t287 => (if t287 > 0 then (poly_Side.l0 k2 l0 (wrap64 (-x5_2)) (l0.length : Int) (wrap64 (x19_2 + 1)) a1_0 a1_1) else (poly_Side.l0 k2 l0 x5_2 (l0.length : Int) (wrap64 (x19_2 + 1)) a1_0 a1_1))) else (poly_Side.l0 k2 l0 x5_2 (l0.length : Int) (wrap64 (x19_2 + 1)) a1_0 a1_1)) else (poly_Side.l0 k2 l0 x5_2 (l0.length : Int) (wrap64 (x19_2 + 1)) a1_0 a1_1))))) = some r := H
   have A14 := bA A140
   clear A140
   replace H := Option.bind_eq_some_iff.mp H
   obtain ⟨t285, A150, H⟩ := H
   have A15 := bA A150
   clear A150
   by_cases c16 : t285 = true
   subst c16
   rw [if_pos rfl] at H
   obtain rfl := Option.some.inj H
   rotate_left
   replace c16 := Bool.eq_false_iff.mpr c16
   subst c16
   rw [if_neg bn] at H
   by_cases c27 : t280 > t282
   rw [if_pos c27] at H
   have c27b0 : decide (t282 < t280) = true := decide_eq_true c27
   clear c27
   by_cases c28 : t282 ≤ a1_1
   rw [if_pos c28] at H
   have c28b0 : decide (t282 ≤ a1_1) = true := decide_eq_true c28
   clear c28
   by_cases c29 : a1_1 < t280
   rw [if_pos c29] at H
   have c29b0 : decide (a1_1 < t280) = true := decide_eq_true c29
   clear c29
   replace H := Option.bind_eq_some_iff.mp H
   obtain ⟨t286, A300, H⟩ := H
   have A30 := bA A300
   clear A300
   by_cases c31 : t286 > 0
   rw [if_pos c31] at H
   have c31b0 : decide (0 < t286) = true := decide_eq_true c31
   clear c31
   have H' := bA H
   clear H
   rotate_left
   rw [if_neg c31] at H
   have c31b0 : decide (0 < t286) = false := decide_eq_false c31
   clear c31
   have H' := bA H
   clear H
   rotate_left
   rw [if_neg c29] at H
   have c29b0 : decide (a1_1 < t280) = false := decide_eq_false c29
   clear c29
   have H' := bA H
   clear H
   rotate_left
   rw [if_neg c28] at H
   have c28b0 : decide (t282 ≤ a1_1) = false := decide_eq_false c28
   clear c28
   have H' := bA H
   clear H
   rotate_left
   rw [if_neg c27] at H
   have c27b0 : decide (t282 < t280) = false := decide_eq_false c27
   clear c27
   by_cases c86 : t280 ≤ a1_1
   rw [if_pos c86] at H
   have c86b0 : decide (t280 ≤ a1_1) = true := decide_eq_true c86
   clear c86
   by_cases c87 : a1_1 < t282
   rw [if_pos c87] at H
   have c87b0 : decide (a1_1 < t282) = true := decide_eq_true c87
   clear c87
   replace H := Option.bind_eq_some_iff.mp H
   obtain ⟨t287, A880, H⟩ := H
   have A88 := bA A880
   clear A880
   by_cases c89 : t287 > 0
   rw [if_pos c89] at H
   have c89b0 : decide (0 < t287) = true := decide_eq_true c89
   clear c89
   have H' := bA H
   clear H
   rotate_left
   rw [if_neg c89] at H
   have c89b0 : decide (0 < t287) = false := decide_eq_false c89
   clear c89
   have H' := bA H
   clear H
   rotate_left
   rw [if_neg c87] at H
   have c87b0 : decide (a1_1 < t282) = false := decide_eq_false c87
   clear c87
   have H' := bA H
   clear H
   rotate_left
   rw [if_neg c86] at H
   have c86b0 : decide (t280 ≤ a1_1) = false := decide_eq_false c86
   clear c86
   have H' := bA H
   clear H
   rotate_left
   rw [if_neg c13] at H
   have c13b0 : decide (x19_2 < (l0.length : Int)) = false := decide_eq_false c13
   clear c13
   obtain rfl := Option.some.inj H
   rotate_left
   all_goals go_wp2_with (first | ((first | ((with_reducible refine gate_callee (f := 73) rfl ?_); refine bC (some 25) Try.func73 #[.slice A0 l0.length c0, .int .i64 x19_2] ?_) | go_at_call 73); (with_reducible refine (poly_edge.calls _ _ l0 x19_2 t279 t280 t281 t282 _ ?side1 ?side2 A14.out).mono ?_); (case side1 => exact bQ HR0); (case side2 => exact HC0.out); rintro e wz0 ⟨rfl, hb⟩; (first | refine ⟨_, rfl, ?_⟩ | skip); replace BK276 := bA (bB BK276 hb); replace HB := bA (bS hb); (try clear hb)) | ((with_reducible refine gate_dst (N := 7) rfl ?_); refine bE (N := 7) (cs := #[.int .i64 0, .int .i64 0]) (t := 41) ?_; intro gb283 hg wz1 hbox hb; have BK283 := bA (hbox); have GW283 := bA (bZ hg); have GE283 := bA (bZ hg); have NB276_283 := bA (bL BK276 hg); have NB283_276 := bA (bG BK276 hg); replace BK276 := bA (bB BK276 hb); replace HB := bA (bS hb); clear hb hbox hg) | ((with_reducible refine gate_dst (N := 8) rfl ?_); refine bE (N := 8) (cs := #[.int .i64 0, .int .i64 0]) (t := 41) ?_; intro gb284 hg wz2 hbox hb; have BK284 := bA (hbox); have GW284 := bA (bZ hg); have GE284 := bA (bZ hg); have NB276_284 := bA (bL BK276 hg); have NB284_276 := bA (bG BK276 hg); have NB283_284 := bA (bL BK283 hg); have NB284_283 := bA (bG BK283 hg); replace BK276 := bA (bB BK276 hb); replace BK283 := bA (bB BK283 hb); replace HB := bA (bS hb); clear hb hbox hg; have hz1 := NB283_276.out; have hz2 := NB276_283.out; have hz3 := NB283_284.out; have hz4 := NB284_283.out; obtain ⟨hz5, hz6, hz7, hz8⟩ := bc2 BK283; have hz9 := NB284_276.out; have hz10 := NB276_284.out; obtain ⟨hz11, hz12, hz13, hz14⟩ := bc2 BK284; obtain ⟨hz15, hz16, hz17, hz18⟩ := bc2 BK276) | ((first | ((with_reducible refine gate_callee (f := 41) rfl ?_); refine bC (some 31) Try.func41 #[.agg #[.int .i64 a1_0, .int .i64 a1_1], .agg #[.int .i64 t279, .int .i64 t280], .agg #[.int .i64 t281, .int .i64 t282]] ?_) | go_at_call 41); (with_reducible refine (point_On.calls k2 a1_0 a1_1 t279 t280 t281 t282 true _ A15.out).mono ?_); rintro e wz3 ⟨rfl, hb⟩; (first | refine ⟨_, rfl, ?_⟩ | skip); replace BK276 := bA (blk_below (g := gb276) (o := .cells #[.int .i64 a1_0, .int .i64 a1_1] 41 (0, 0)) (by (repeat ((with_reducible repeat (first | refine blk_drewN ?_ _ | refine blk_drew ?_ | refine blk_alloc ?_ _)); refine blk_far ?_ NB276_284.out _)); (repeat ((with_reducible repeat (first | refine blk_drewN ?_ _ | refine blk_drew ?_ | refine blk_alloc ?_ _)); refine blk_far ?_ NB276_283.out _)); (with_reducible repeat (first | refine blk_drewN ?_ _ | refine blk_drew ?_ | refine blk_alloc ?_ _)); exact BK276.out) hb); replace BK283 := bA (blk_below (g := gb283) (o := .cells #[.int .i64 t279, .int .i64 t280] 41 (0, 0)) (by (repeat ((with_reducible repeat (first | refine blk_drewN ?_ _ | refine blk_drew ?_ | refine blk_alloc ?_ _)); refine blk_far ?_ NB283_284.out _)); (with_reducible repeat (first | refine blk_drewN ?_ _ | refine blk_drew ?_ | refine blk_alloc ?_ _)); refine blk_put (cs := #[.int .i64 t279, .int .i64 0]) ?_ 1 _ rfl; (with_reducible repeat (first | refine blk_drewN ?_ _ | refine blk_drew ?_ | refine blk_alloc ?_ _)); refine blk_put (cs := #[.int .i64 0, .int .i64 0]) ?_ 0 _ rfl; (with_reducible repeat (first | refine blk_drewN ?_ _ | refine blk_drew ?_ | refine blk_alloc ?_ _)); exact BK283.out) hb); replace BK284 := bA (blk_below (g := gb284) (o := .cells #[.int .i64 t281, .int .i64 t282] 41 (0, 0)) (by (with_reducible repeat (first | refine blk_drewN ?_ _ | refine blk_drew ?_ | refine blk_alloc ?_ _)); refine blk_put (cs := #[.int .i64 t281, .int .i64 0]) ?_ 1 _ rfl; (with_reducible repeat (first | refine blk_drewN ?_ _ | refine blk_drew ?_ | refine blk_alloc ?_ _)); refine blk_put (cs := #[.int .i64 0, .int .i64 0]) ?_ 0 _ rfl; (repeat ((with_reducible repeat (first | refine blk_drewN ?_ _ | refine blk_drew ?_ | refine blk_alloc ?_ _)); refine blk_far ?_ NB284_283.out _)); (with_reducible repeat (first | refine blk_drewN ?_ _ | refine blk_drew ?_ | refine blk_alloc ?_ _)); exact BK284.out) hb); replace HB := bA (bS hb); (try clear hb)) | ((first | ((with_reducible refine gate_callee (f := 41) rfl ?_); refine bC (some 31) Try.func41 #[.agg #[.int .i64 a1_0, .int .i64 a1_1], .agg #[.int .i64 t279, .int .i64 t280], .agg #[.int .i64 t281, .int .i64 t282]] ?_) | go_at_call 41); (with_reducible refine (point_On.calls k2 a1_0 a1_1 t279 t280 t281 t282 false _ A15.out).mono ?_); rintro e wz3 ⟨rfl, hb⟩; (first | refine ⟨_, rfl, ?_⟩ | skip); replace BK276 := bA (blk_below (g := gb276) (o := .cells #[.int .i64 a1_0, .int .i64 a1_1] 41 (0, 0)) (by (repeat ((with_reducible repeat (first | refine blk_drewN ?_ _ | refine blk_drew ?_ | refine blk_alloc ?_ _)); refine blk_far ?_ NB276_284.out _)); (repeat ((with_reducible repeat (first | refine blk_drewN ?_ _ | refine blk_drew ?_ | refine blk_alloc ?_ _)); refine blk_far ?_ NB276_283.out _)); (with_reducible repeat (first | refine blk_drewN ?_ _ | refine blk_drew ?_ | refine blk_alloc ?_ _)); exact BK276.out) hb); replace BK283 := bA (blk_below (g := gb283) (o := .cells #[.int .i64 t279, .int .i64 t280] 41 (0, 0)) (by (repeat ((with_reducible repeat (first | refine blk_drewN ?_ _ | refine blk_drew ?_ | refine blk_alloc ?_ _)); refine blk_far ?_ NB283_284.out _)); (with_reducible repeat (first | refine blk_drewN ?_ _ | refine blk_drew ?_ | refine blk_alloc ?_ _)); refine blk_put (cs := #[.int .i64 t279, .int .i64 0]) ?_ 1 _ rfl; (with_reducible repeat (first | refine blk_drewN ?_ _ | refine blk_drew ?_ | refine blk_alloc ?_ _)); refine blk_put (cs := #[.int .i64 0, .int .i64 0]) ?_ 0 _ rfl; (with_reducible repeat (first | refine blk_drewN ?_ _ | refine blk_drew ?_ | refine blk_alloc ?_ _)); exact BK283.out) hb); replace BK284 := bA (blk_below (g := gb284) (o := .cells #[.int .i64 t281, .int .i64 t282] 41 (0, 0)) (by (with_reducible repeat (first | refine blk_drewN ?_ _ | refine blk_drew ?_ | refine blk_alloc ?_ _)); refine blk_put (cs := #[.int .i64 t281, .int .i64 0]) ?_ 1 _ rfl; (with_reducible repeat (first | refine blk_drewN ?_ _ | refine blk_drew ?_ | refine blk_alloc ?_ _)); refine blk_put (cs := #[.int .i64 0, .int .i64 0]) ?_ 0 _ rfl; (repeat ((with_reducible repeat (first | refine blk_drewN ?_ _ | refine blk_drew ?_ | refine blk_alloc ?_ _)); refine blk_far ?_ NB284_283.out _)); (with_reducible repeat (first | refine blk_drewN ?_ _ | refine blk_drew ?_ | refine blk_alloc ?_ _)); exact BK284.out) hb); replace HB := bA (bS hb); (try clear hb); obtain ⟨hz19, hz20, hz7, hz8⟩ := bc2 BK283; obtain ⟨hz21, hz22, hz13, hz14⟩ := bc2 BK284; obtain ⟨hz23, hz24, hz17, hz18⟩ := bc2 BK276) | (go_at_call 74; (with_reducible refine (point_Turn.calls k2 t281 t282 t279 t280 a1_0 a1_1 t286 _ A30.out).mono ?_); rintro e wz4 ⟨rfl, hb⟩; replace BK276 := bA (blk_below (g := gb276) (o := .cells #[.int .i64 a1_0, .int .i64 a1_1] 41 (0, 0)) (by (repeat ((with_reducible repeat (first | refine blk_drewN ?_ _ | refine blk_drew ?_ | refine blk_alloc ?_ _)); refine blk_far ?_ NB276_284.out _)); (repeat ((with_reducible repeat (first | refine blk_drewN ?_ _ | refine blk_drew ?_ | refine blk_alloc ?_ _)); refine blk_far ?_ NB276_283.out _)); (with_reducible repeat (first | refine blk_drewN ?_ _ | refine blk_drew ?_ | refine blk_alloc ?_ _)); exact BK276.out) hb); replace BK283 := bA (blk_below (g := gb283) (o := .cells #[.int .i64 t281, .int .i64 t282] 41 (0, 0)) (by (repeat ((with_reducible repeat (first | refine blk_drewN ?_ _ | refine blk_drew ?_ | refine blk_alloc ?_ _)); refine blk_far ?_ NB283_284.out _)); (with_reducible repeat (first | refine blk_drewN ?_ _ | refine blk_drew ?_ | refine blk_alloc ?_ _)); refine blk_put (cs := #[.int .i64 t281, .int .i64 t280]) ?_ 1 _ rfl; (with_reducible repeat (first | refine blk_drewN ?_ _ | refine blk_drew ?_ | refine blk_alloc ?_ _)); refine blk_put (cs := #[.int .i64 t279, .int .i64 t280]) ?_ 0 _ rfl; (with_reducible repeat (first | refine blk_drewN ?_ _ | refine blk_drew ?_ | refine blk_alloc ?_ _)); exact BK283.out) hb); replace BK284 := bA (blk_below (g := gb284) (o := .cells #[.int .i64 t279, .int .i64 t280] 41 (0, 0)) (by (with_reducible repeat (first | refine blk_drewN ?_ _ | refine blk_drew ?_ | refine blk_alloc ?_ _)); refine blk_put (cs := #[.int .i64 t279, .int .i64 t282]) ?_ 1 _ rfl; (with_reducible repeat (first | refine blk_drewN ?_ _ | refine blk_drew ?_ | refine blk_alloc ?_ _)); refine blk_put (cs := #[.int .i64 t281, .int .i64 t282]) ?_ 0 _ rfl; (repeat ((with_reducible repeat (first | refine blk_drewN ?_ _ | refine blk_drew ?_ | refine blk_alloc ?_ _)); refine blk_far ?_ NB284_283.out _)); (with_reducible repeat (first | refine blk_drewN ?_ _ | refine blk_drew ?_ | refine blk_alloc ?_ _)); exact BK284.out) hb); replace HB := bA (bS hb); (try clear hb)) | (go_at_call 74; (with_reducible refine (point_Turn.calls k2 t279 t280 t281 t282 a1_0 a1_1 t287 _ A88.out).mono ?_); rintro e wz4 ⟨rfl, hb⟩; replace BK276 := bA (bB BK276 hb); replace BK283 := bA (bB BK283 hb); replace BK284 := bA (bB BK284 hb); replace HB := bA (bS hb); (try clear hb)))
   ·go_ret
    exact bF
   ·go_roundg k2
    case measure => have := HJ2.out; have := HK2.out; omega
    case rel => exact ⟨(wrap64 (-x5_2)), (wrap64 (x19_2 + 1)), bs, bs, H', ⟨by have := HJ2.out; have := HK2.out; omega⟩, ⟨by (with_reducible repeat (first | refine blk_drewN ?_ _ | refine blk_drew ?_ | refine blk_alloc ?_ _)); exact BK276.out⟩, ⟨bX⟩⟩
   ·go_roundg k2
    case measure => have := HJ2.out; have := HK2.out; omega
    case rel => exact ⟨(x5_2), (wrap64 (x19_2 + 1)), bs, bs, H', ⟨by have := HJ2.out; have := HK2.out; omega⟩, ⟨by (with_reducible repeat (first | refine blk_drewN ?_ _ | refine blk_drew ?_ | refine blk_alloc ?_ _)); exact BK276.out⟩, ⟨bX⟩⟩
   ·go_roundg k2
    case measure => have := HJ2.out; have := HK2.out; omega
    case rel => exact ⟨(x5_2), (wrap64 (x19_2 + 1)), bs, bs, H', ⟨by have := HJ2.out; have := HK2.out; omega⟩, ⟨by (repeat ((with_reducible repeat (first | refine blk_drewN ?_ _ | refine blk_drew ?_ | refine blk_alloc ?_ _)); refine blk_far ?_ NB276_284.out _)); (repeat ((with_reducible repeat (first | refine blk_drewN ?_ _ | refine blk_drew ?_ | refine blk_alloc ?_ _)); refine blk_far ?_ NB276_283.out _)); (with_reducible repeat (first | refine blk_drewN ?_ _ | refine blk_drew ?_ | refine blk_alloc ?_ _)); exact BK276.out⟩, ⟨bX⟩⟩
   ·go_roundg k2
    case measure => have := HJ2.out; have := HK2.out; omega
    case rel => exact ⟨(x5_2), (wrap64 (x19_2 + 1)), bs, bs, H', ⟨by have := HJ2.out; have := HK2.out; omega⟩, ⟨by (repeat ((with_reducible repeat (first | refine blk_drewN ?_ _ | refine blk_drew ?_ | refine blk_alloc ?_ _)); refine blk_far ?_ NB276_284.out _)); (repeat ((with_reducible repeat (first | refine blk_drewN ?_ _ | refine blk_drew ?_ | refine blk_alloc ?_ _)); refine blk_far ?_ NB276_283.out _)); (with_reducible repeat (first | refine blk_drewN ?_ _ | refine blk_drew ?_ | refine blk_alloc ?_ _)); exact BK276.out⟩, ⟨bX⟩⟩
   ·go_roundg k2
    case measure => have := HJ2.out; have := HK2.out; omega
    case rel => exact ⟨(wrap64 (-x5_2)), (wrap64 (x19_2 + 1)), bs, bs, H', ⟨by have := HJ2.out; have := HK2.out; omega⟩, ⟨by (with_reducible repeat (first | refine blk_drewN ?_ _ | refine blk_drew ?_ | refine blk_alloc ?_ _)); exact BK276.out⟩, ⟨bX⟩⟩
   ·go_roundg k2
    case measure => have := HJ2.out; have := HK2.out; omega
    case rel => exact ⟨(x5_2), (wrap64 (x19_2 + 1)), bs, bs, H', ⟨by have := HJ2.out; have := HK2.out; omega⟩, ⟨by (with_reducible repeat (first | refine blk_drewN ?_ _ | refine blk_drew ?_ | refine blk_alloc ?_ _)); exact BK276.out⟩, ⟨bX⟩⟩
   ·go_roundg k2
    case measure => have := HJ2.out; have := HK2.out; omega
    case rel => exact ⟨(x5_2), (wrap64 (x19_2 + 1)), bs, bs, H', ⟨by have := HJ2.out; have := HK2.out; omega⟩, ⟨by (with_reducible repeat (first | refine blk_drewN ?_ _ | refine blk_drew ?_ | refine blk_alloc ?_ _)); exact BK276.out⟩, ⟨bX⟩⟩
   ·go_roundg k2
    case measure => have := HJ2.out; have := HK2.out; omega
    case rel => exact ⟨(x5_2), (wrap64 (x19_2 + 1)), bs, bs, H', ⟨by have := HJ2.out; have := HK2.out; omega⟩, ⟨by (with_reducible repeat (first | refine blk_drewN ?_ _ | refine blk_drew ?_ | refine blk_alloc ?_ _)); exact BK276.out⟩, ⟨bX⟩⟩
   go_ret
   exact bF
end Go.Proofs.Ytjmibjmlihmglaa.G
