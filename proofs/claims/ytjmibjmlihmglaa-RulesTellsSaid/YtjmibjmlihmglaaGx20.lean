-- Written by a program of this session out of the translation; Lean checks it.
import Derived.Test.YtjmibjmlihmglaaGx0
import Derived.Test.YtjmibjmlihmglaaGx1
namespace Go.Proofs.Ytjmibjmlihmglaa.G
open Go.RowKit Go.Proofs.YtjmibjmlihmglaaW.PrintWords Go.Proofs.YtjmibjmlihmglaaW.PrintLast Go.Proofs.YtjmibjmlihmglaaW.PrintMore
attribute [local go_sem] max2_int min2_int max_two min_two max_three min_three max_four min_four   -- for this text's walks alone
set_option linter.unusedVariables false
set_option linter.unusedSimpArgs false

attribute [local go_sem high] eqA41
/-! ### apogeeref10_Same: function 36 -/
def apogeeref10_Same.l0 : Nat → List (S41) → List (S41) → Int → Option (Bool)
 | 0, _, _, _ => none
 | k + 1, x0, x1, x5 => if x5 < (x0.length : Int) then (if 0 ≤ x5 then (if x5 < (x1.length : Int) then (if (!(((rd_T41 x0 x5).f0) == ((rd_T41 x1 x5).f0)) || (!(((rd_T41 x0 x5).f1) == ((rd_T41 x1 x5).f1)))) = true then (some false) else (apogeeref10_Same.l0 k x0 x1 (wrap64 (x5 + 1)))) else (none)) else (none)) else (some true)
def apogeeref10_Same.f (k : Nat) (l0 : List (S41)) (l1 : List (S41)) : Option (Bool) := if (l0.length : Int) = (l1.length : Int) then (apogeeref10_Same.l0 k l0 l1 0) else (some false)
theorem apogeeref10_Same.mono_l : ∀ k, (∀ y0 y1 y2, LeO (apogeeref10_Same.l0 k y0 y1 y2) (apogeeref10_Same.l0 (k + 1) y0 y1 y2))
 | 0 => fun _ _ _ r h => by simp [apogeeref10_Same.l0] at h
 | k + 1 => by
  have ih0 := apogeeref10_Same.mono_l k
  ·intro y0 y1 y2
   unfold apogeeref10_Same.l0
   repeat' first
   | (with_reducible exact ih0 _ _ _)
   | (with_reducible exact LeO.refl _)
   | (with_reducible exact LeO.none _)
   | (with_reducible refine LeO.ite ?_ ?_)
   | (with_reducible refine LeO.bind ?_ (fun _ => ?_))
   | exact ih0 _ _ _
   | exact LeO.none _
   | refine LeO.ite ?_ ?_
   | refine LeO.bind ?_ (fun _ => ?_)
theorem apogeeref10_Same.mono : ∀ a0 a1 k, LeO (apogeeref10_Same.f k a0 a1) (apogeeref10_Same.f (k + 1) a0 a1) := by
 intro a0 a1 k
 have ih0 := apogeeref10_Same.mono_l k
 unfold apogeeref10_Same.f
 repeat' first
   | (with_reducible exact ih0 _ _ _)
   | (with_reducible exact LeO.refl _)
   | (with_reducible exact LeO.none _)
   | (with_reducible refine LeO.ite ?_ ?_)
   | (with_reducible refine LeO.bind ?_ (fun _ => ?_))
   | exact ih0 _ _ _
   | exact LeO.none _
   | refine LeO.ite ?_ ?_
   | refine LeO.bind ?_ (fun _ => ?_)
set_option maxHeartbeats 8000000 in
set_option maxRecDepth 100000 in
theorem apogeeref10_Same.calls (k : Nat) (A0 : Option Addr) (c0 : Nat) (l0 : List (S41)) (A1 : Option Addr) (c1 : Nat) (l1 : List (S41)) (r : Bool) (w : World) (hr0 : Kd.C k41 w A0 l0.length l0) (hc0 : l0.length ≤ c0) (hr1 : Kd.C k41 w A1 l1.length l1) (hc1 : l1.length ≤ c1) (h : apogeeref10_Same.f k l0 l1 = some r) :
  Calls Try.prog 36 #[.slice A0 l0.length c0, .slice A1 l1.length c1] w fun e w' => e = .returned (.bool r) ∧ Drawn0 w w' := by
 have hu41 := Try.underlying41
 have HR0 := bA hr0
 have HC0 := bA hc0
 clear hr0 hc0
 have HR1 := bA hr1
 have HC1 := bA hc1
 clear hr1 hc1
 have H : (if (l0.length : Int) = (l1.length : Int) then (apogeeref10_Same.l0 k l0 l1 0) else (some false)) = some r := h
 clear h
 by_cases c3 : (l0.length : Int) = (l1.length : Int)
 rotate_left
 ·rw [if_neg c3] at H
  have c3b0 : ((l0.length : Int) == (l1.length : Int)) = false := beq_eq_false_iff_ne.mpr c3
  have c3b1 : ((l0.length : Int) != (l1.length : Int)) = true := bne_iff_ne.mpr c3
  have c3b2 : (l0.length == l1.length) = false := by first | simpa using c3 | (simp at c3 ⊢; omega)
  obtain rfl := Option.some.inj H
  go_enter Try.func36, Try.ntmps36
  go_wp2
  repeat (go_quiet (fail); try go_wp2)
  go_ret
  exact bD
 rw [if_pos c3] at H
 have c3b0 : ((l0.length : Int) == (l1.length : Int)) = true := beq_iff_eq.mpr c3
 have c3b1 : ((l0.length : Int) != (l1.length : Int)) = false := bne_eq_false_iff_eq.mpr c3
 have c3b2 : (l0.length == l1.length) = true := by first | simpa using c3 | (simp at c3 ⊢; omega)
 clear c3
 have H' := bA H
 clear H
 go_enter Try.func36, Try.ntmps36
 go_wp2
 repeat (go_quiet (fail); try go_wp2)
 go_loopg [5] k (fun kq v5 w' => ∃ (x5_1 : Int), v5 = .int .i64 x5_1 ∧ Aside0 (apogeeref10_Same.l0 kq l0 l1 x5_1 = some r) ∧ Aside0 (kq ≤ k) ∧ Drawn0 w w')
 case atStart => exact ⟨(0), bs, H', ⟨Nat.le_refl _⟩, by repeat (first | exact Drawn0.refl _ | apply Drawn0.step)⟩
 clear H'
 try clear c1
 try clear p2
 try clear c3
 try clear c3b0
 try clear c3b1
 try clear c3b2
 obtain ⟨x5_1, rfl, HA, HK1, ⟨m1, rfl⟩⟩ := hrel
 cases gk with
 | zero => exact absurd HA.out (by simp [apogeeref10_Same.l0])
 | succ k1 =>
  have H := HA.out
  clear HA
  simp only [apogeeref10_Same.l0] at H
  by_cases c4 : x5_1 < (l0.length : Int)
  rotate_left
  ·rw [if_neg c4] at H
   have c4b0 : decide (x5_1 < (l0.length : Int)) = false := decide_eq_false c4
   clear c4
   obtain rfl := Option.some.inj H
   go_wp2
   repeat (go_quiet (fail); try go_wp2)
   go_ret
   exact bD
  rw [if_pos c4] at H
  have c4b0 : decide (x5_1 < (l0.length : Int)) = true := decide_eq_true c4
  clear c4
  by_cases c5 : 0 ≤ x5_1
  rotate_left
  ·rw [if_neg c5] at H
   exact absurd H (by simp)
  rw [if_pos c5] at H
  have c5b0 : decide (0 ≤ x5_1) = true := decide_eq_true c5
  clear c5
  by_cases c6 : x5_1 < (l1.length : Int)
  rotate_left
  ·rw [if_neg c6] at H
   exact absurd H (by simp)
  rw [if_pos c6] at H
  have c6b0 : decide (x5_1 < (l1.length : Int)) = true := decide_eq_true c6
  clear c6
  by_cases c7 : (!(((rd_T41 l0 x5_1).f0) == ((rd_T41 l1 x5_1).f0)) || (!(((rd_T41 l0 x5_1).f1) == ((rd_T41 l1 x5_1).f1)))) = true
  ·rw [if_pos c7] at H
   have c7b0 : (!(((rd_T41 l0 x5_1).f0) == ((rd_T41 l1 x5_1).f0)) || (!(((rd_T41 l0 x5_1).f1) == ((rd_T41 l1 x5_1).f1)))) = true := c7
   clear c7
   obtain rfl := Option.some.inj H
   have p483 : 0 ≤ (x5_1 : Int) := bo
   have q483 : x5_1 < (l0.length : Int) := bo
   obtain ⟨ad483, e483, hx483_0, hx483_1⟩ := at_T41 HR0.out x5_1 p483 q483
   cases e483
   replace p483 := eq_true p483
   replace q483 := eq_true q483
   have p484 : 0 ≤ (x5_1 : Int) := bo
   have q484 : x5_1 < (l1.length : Int) := bo
   obtain ⟨ad484, e484, hx484_0, hx484_1⟩ := at_T41 HR1.out x5_1 p484 q484
   cases e484
   replace p484 := eq_true p484
   replace q484 := eq_true q484
   go_wp2
   repeat (go_quiet (fail); try go_wp2)
   go_ret
   exact bD
  rw [if_neg c7] at H
  have c7b0 : (!(((rd_T41 l0 x5_1).f0) == ((rd_T41 l1 x5_1).f0)) || (!(((rd_T41 l0 x5_1).f1) == ((rd_T41 l1 x5_1).f1)))) = false := by simpa using c7
  clear c7
  have H' := bA H
  clear H
  have p483 : 0 ≤ (x5_1 : Int) := bo
  have q483 : x5_1 < (l0.length : Int) := bo
  obtain ⟨ad483, e483, hx483_0, hx483_1⟩ := at_T41 HR0.out x5_1 p483 q483
  cases e483
  replace p483 := eq_true p483
  replace q483 := eq_true q483
  have p484 : 0 ≤ (x5_1 : Int) := bo
  have q484 : x5_1 < (l1.length : Int) := bo
  obtain ⟨ad484, e484, hx484_0, hx484_1⟩ := at_T41 HR1.out x5_1 p484 q484
  cases e484
  replace p484 := eq_true p484
  replace q484 := eq_true q484
  go_wp2
  repeat (go_quiet (fail); try go_wp2)
  go_roundg k1
  case measure => have := HK1.out; omega
  case rel => exact ⟨(wrap64 (x5_1 + 1)), bs, H', ⟨by have := HK1.out; omega⟩, by repeat (first | exact Drawn0.refl _ | apply Drawn0.step)⟩
/-! ### apogeeref13_SamePhase: function 21 -/
def apogeeref13_SamePhase.f (k : Nat) (l0_0 : List (S41)) (a0_1 : Int) (a0_2 : Int) (a0_3 : Int) (a0_4 : Int) (l1_0 : List (S41)) (a1_1 : Int) (a1_2 : Int) (a1_3 : Int) (a1_4 : Int) : Option (Bool) := (apogeeref10_Same.f k l0_0 l1_0).bind fun t487 => (if t487 = true then (if a0_1 = a1_1 then (if a0_2 = a1_2 then (if a0_3 = a1_3 then (some (a0_4 == a1_4)) else (some false)) else (some false)) else (some false)) else (some false))
theorem apogeeref13_SamePhase.mono : ∀ a0 a1 a2 a3 a4 a5 a6 a7 a8 a9 k, LeO (apogeeref13_SamePhase.f k a0 a1 a2 a3 a4 a5 a6 a7 a8 a9) (apogeeref13_SamePhase.f (k + 1) a0 a1 a2 a3 a4 a5 a6 a7 a8 a9) := by
 intro a0 a1 a2 a3 a4 a5 a6 a7 a8 a9 k
 unfold apogeeref13_SamePhase.f
 repeat' first
   | (with_reducible exact apogeeref10_Same.mono _ _ _)
   | (with_reducible exact LeO.refl _)
   | (with_reducible exact LeO.none _)
   | (with_reducible refine LeO.ite ?_ ?_)
   | (with_reducible refine LeO.bind ?_ (fun _ => ?_))
   | exact apogeeref10_Same.mono _ _ _
   | exact LeO.none _
   | refine LeO.ite ?_ ?_
   | refine LeO.bind ?_ (fun _ => ?_)
set_option maxHeartbeats 8000000 in
set_option maxRecDepth 100000 in
theorem apogeeref13_SamePhase.calls (k : Nat) (A0_0 : Option Addr) (c0_0 : Nat) (l0_0 : List (S41)) (a0_1 : Int) (a0_2 : Int) (a0_3 : Int) (a0_4 : Int) (A1_0 : Option Addr) (c1_0 : Nat) (l1_0 : List (S41)) (a1_1 : Int) (a1_2 : Int) (a1_3 : Int) (a1_4 : Int) (r : Bool) (w : World) (hr0_0 : Kd.C k41 w A0_0 l0_0.length l0_0) (hc0_0 : l0_0.length ≤ c0_0) (hr1_0 : Kd.C k41 w A1_0 l1_0.length l1_0) (hc1_0 : l1_0.length ≤ c1_0) (h : apogeeref13_SamePhase.f k l0_0 a0_1 a0_2 a0_3 a0_4 l1_0 a1_1 a1_2 a1_3 a1_4 = some r) :
  Calls Try.prog 21 #[.agg #[.slice A0_0 l0_0.length c0_0, .int .i64 a0_1, .int .i64 a0_2, .int .i64 a0_3, .int .i64 a0_4], .agg #[.slice A1_0 l1_0.length c1_0, .int .i64 a1_1, .int .i64 a1_2, .int .i64 a1_3, .int .i64 a1_4]] w fun e w' => e = .returned (.bool r) ∧ Below w.heap.size w w' := by
 have hu30 := Try.underlying30
 have HR0_0 := bA hr0_0
 have HC0_0 := bA hc0_0
 clear hr0_0 hc0_0
 have HR1_0 := bA hr1_0
 have HC1_0 := bA hc1_0
 clear hr1_0 hc1_0
 have HB := bA (Below.refl w.heap.size w)
 have H : ((apogeeref10_Same.f k l0_0 l1_0).bind fun t487 => (if t487 = true then (if a0_1 = a1_1 then (if a0_2 = a1_2 then (if a0_3 = a1_3 then (some (a0_4 == a1_4)) else (some false)) else (some false)) else (some false)) else (some false))) = some r := h
 clear h
 replace H := Option.bind_eq_some_iff.mp H
 obtain ⟨t487, A30, H⟩ := H
 replace H : (if t487 = true then (if a0_1 = a1_1 then (if a0_2 = a1_2 then (if a0_3 = a1_3 then (some (a0_4 == a1_4)) else (some false)) else (some false)) else (some false)) else (some false)) = some r := H
 have A3 := bA A30
 clear A30
 by_cases c4 : t487 = true
 subst c4
 rw [if_pos rfl] at H
 by_cases c5 : a0_1 = a1_1
 rw [if_pos c5] at H
 have c5b0 : (a0_1 == a1_1) = true := beq_iff_eq.mpr c5
 have c5b1 : (a0_1 != a1_1) = false := bne_eq_false_iff_eq.mpr c5
 clear c5
 by_cases c6 : a0_2 = a1_2
 rw [if_pos c6] at H
 have c6b0 : (a0_2 == a1_2) = true := beq_iff_eq.mpr c6
 have c6b1 : (a0_2 != a1_2) = false := bne_eq_false_iff_eq.mpr c6
 clear c6
 by_cases c7 : a0_3 = a1_3
 rw [if_pos c7] at H
 have c7b0 : (a0_3 == a1_3) = true := beq_iff_eq.mpr c7
 have c7b1 : (a0_3 != a1_3) = false := bne_eq_false_iff_eq.mpr c7
 clear c7
 obtain rfl := Option.some.inj H
 rotate_left
 rw [if_neg c7] at H
 have c7b0 : (a0_3 == a1_3) = false := beq_eq_false_iff_ne.mpr c7
 have c7b1 : (a0_3 != a1_3) = true := bne_iff_ne.mpr c7
 obtain rfl := Option.some.inj H
 rotate_left
 rw [if_neg c6] at H
 have c6b0 : (a0_2 == a1_2) = false := beq_eq_false_iff_ne.mpr c6
 have c6b1 : (a0_2 != a1_2) = true := bne_iff_ne.mpr c6
 obtain rfl := Option.some.inj H
 rotate_left
 rw [if_neg c5] at H
 have c5b0 : (a0_1 == a1_1) = false := beq_eq_false_iff_ne.mpr c5
 have c5b1 : (a0_1 != a1_1) = true := bne_iff_ne.mpr c5
 obtain rfl := Option.some.inj H
 rotate_left
 replace c4 := Bool.eq_false_iff.mpr c4
 subst c4
 rw [if_neg bn] at H
 obtain rfl := Option.some.inj H
 rotate_left
 all_goals go_enter Try.func21, Try.ntmps21
 all_goals go_wp2_with (first | ((with_reducible refine gate_dst (N := 2) rfl ?_); refine bE (N := 2) (cs := #[.slice A0_0 l0_0.length c0_0, .int .i64 a0_1, .int .i64 a0_2, .int .i64 a0_3, .int .i64 a0_4]) (t := 30) ?_; intro gb485 hg wz0 hbox hb; have BK485 := bA (hbox); have GW485 := bA (bZ hg); have GE485 := bA (bZ hg); replace HB := bA (bS hb); clear hb hbox hg) | ((with_reducible refine gate_dst (N := 3) rfl ?_); refine bE (N := 3) (cs := #[.slice A1_0 l1_0.length c1_0, .int .i64 a1_1, .int .i64 a1_2, .int .i64 a1_3, .int .i64 a1_4]) (t := 30) ?_; intro gb486 hg wz1 hbox hb; have BK486 := bA (hbox); have GW486 := bA (bZ hg); have GE486 := bA (bZ hg); have NB485_486 := bA (bL BK485 hg); have NB486_485 := bA (bG BK485 hg); replace BK485 := bA (bB BK485 hb); replace HB := bA (bS hb); clear hb hbox hg; have hz1 := NB485_486.out; have hz2 := NB486_485.out; obtain ⟨hz3, hz4, hz5, hz6, hz7, hz8, hz9, hz10, hz11, hz12⟩ := bc5 BK485; obtain ⟨hz13, hz14, hz15, hz16, hz17, hz18, hz19, hz20, hz21, hz22⟩ := bc5 BK486) | ((first | ((with_reducible refine gate_callee (f := 36) rfl ?_); refine bC (some 9) Try.func36 #[.slice A0_0 l0_0.length c0_0, .slice A1_0 l1_0.length c1_0] ?_) | go_at_call 36); (with_reducible refine (apogeeref10_Same.calls k _ _ l0_0 _ _ l1_0 true _ ?side1 ?side2 ?side3 ?side4 A3.out).mono ?_); (case side1 => exact bQ HR0_0); (case side2 => exact HC0_0.out); (case side3 => exact bQ HR1_0); (case side4 => exact HC1_0.out); rintro e w' ⟨rfl, ⟨nd, rfl⟩⟩; (first | refine ⟨_, rfl, ?_⟩ | skip)) | ((first | ((with_reducible refine gate_callee (f := 36) rfl ?_); refine bC (some 9) Try.func36 #[.slice A0_0 l0_0.length c0_0, .slice A1_0 l1_0.length c1_0] ?_) | go_at_call 36); (with_reducible refine (apogeeref10_Same.calls k _ _ l0_0 _ _ l1_0 false _ ?side1 ?side2 ?side3 ?side4 A3.out).mono ?_); (case side1 => exact bQ HR0_0); (case side2 => exact HC0_0.out); (case side3 => exact bQ HR1_0); (case side4 => exact HC1_0.out); rintro e w' ⟨rfl, ⟨nd, rfl⟩⟩; (first | refine ⟨_, rfl, ?_⟩ | skip)))
 all_goals (go_ret; exact bF)
end Go.Proofs.Ytjmibjmlihmglaa.G
