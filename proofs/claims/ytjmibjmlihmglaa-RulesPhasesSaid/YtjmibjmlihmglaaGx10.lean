-- Written by a program of this session out of the translation; Lean checks it.
import Derived.Test.YtjmibjmlihmglaaGx0
import Derived.Test.YtjmibjmlihmglaaGx1
import Derived.Test.YtjmibjmlihmglaaGx9
namespace Go.Proofs.Ytjmibjmlihmglaa.G
open Go.RowKit Go.Proofs.YtjmibjmlihmglaaW.PrintWords Go.Proofs.YtjmibjmlihmglaaW.PrintLast Go.Proofs.YtjmibjmlihmglaaW.PrintMore
attribute [local go_sem] max2_int min2_int max_two min_two max_three min_three max_four min_four   -- for this text's walks alone
set_option linter.unusedVariables false
set_option linter.unusedSimpArgs false

attribute [local go_sem high] eqA41
/-! ### slices_Equal_Point: function 113 -/
def slices_Equal_Point.l0 : Nat → List (S41) → List (S41) → Int → Int → Option (Bool)
 | 0, _, _, _, _ => none
 | k + 1, x0, x1, x12, x13 => if x13 < x12 then (if 0 ≤ x13 then (if x13 < (x0.length : Int) then (if x13 < (x1.length : Int) then (if (!(((rd_T41 x0 x13).f0) == ((rd_T41 x1 x13).f0)) || (!(((rd_T41 x0 x13).f1) == ((rd_T41 x1 x13).f1)))) = true then (some false) else (slices_Equal_Point.l0 k x0 x1 x12 (wrap64 (x13 + 1)))) else (none)) else (none)) else (none)) else (some true)
def slices_Equal_Point.f (k : Nat) (l0 : List (S41)) (l1 : List (S41)) : Option (Bool) := if (l0.length : Int) = (l1.length : Int) then (slices_Equal_Point.l0 k l0 l1 (l0.length : Int) 0) else (some false)
theorem slices_Equal_Point.mono_l : ∀ k, (∀ y0 y1 y2 y3, LeO (slices_Equal_Point.l0 k y0 y1 y2 y3) (slices_Equal_Point.l0 (k + 1) y0 y1 y2 y3))
 | 0 => fun _ _ _ _ r h => by simp [slices_Equal_Point.l0] at h
 | k + 1 => by
  have ih0 := slices_Equal_Point.mono_l k
  ·intro y0 y1 y2 y3
   unfold slices_Equal_Point.l0
   exact bMo
theorem slices_Equal_Point.mono : ∀ a0 a1 k, LeO (slices_Equal_Point.f k a0 a1) (slices_Equal_Point.f (k + 1) a0 a1) := by
 intro a0 a1 k
 have ih0 := slices_Equal_Point.mono_l k
 unfold slices_Equal_Point.f
 exact bMo
set_option maxHeartbeats 8000000 in
set_option maxRecDepth 100000 in
theorem slices_Equal_Point.calls (k : Nat) (A0 : Option Addr) (c0 : Nat) (l0 : List (S41)) (A1 : Option Addr) (c1 : Nat) (l1 : List (S41)) (r : Bool) (w : World) (hr0 : Kd.C k41 w A0 l0.length l0) (hc0 : l0.length ≤ c0) (hr1 : Kd.C k41 w A1 l1.length l1) (hc1 : l1.length ≤ c1) (h : slices_Equal_Point.f k l0 l1 = some r) :
  Calls Try.prog 113 #[.slice A0 l0.length c0, .slice A1 l1.length c1] w fun e w' => e = .returned (.bool r) ∧ Drawn0 w w' := by
 have hu41 := Try.underlying41
 have HR0 := bA hr0
 have HC0 := bA hc0
 clear hr0 hc0
 have HR1 := bA hr1
 have HC1 := bA hc1
 clear hr1 hc1
 have H : (if (l0.length : Int) = (l1.length : Int) then (slices_Equal_Point.l0 k l0 l1 (l0.length : Int) 0) else (some false)) = some r := h
 clear h
 by_cases c3 : (l0.length : Int) = (l1.length : Int)
 rotate_left
 ·rw [if_neg c3] at H
  have c3b0 : ((l0.length : Int) == (l1.length : Int)) = false := beq_eq_false_iff_ne.mpr c3
  have c3b1 : ((l0.length : Int) != (l1.length : Int)) = true := bne_iff_ne.mpr c3
  have c3b2 : (l0.length == l1.length) = false := by first | simpa using c3 | (simp at c3 ⊢; omega)
  obtain rfl := Option.some.inj H
  go_enter Try.func113, Try.ntmps113
  go_wp2
  repeat (go_quiet (fail); try go_wp2)
  go_ret
  exact bD
 rw [if_pos c3] at H
 have c3b0 : ((l0.length : Int) == (l1.length : Int)) = true := beq_iff_eq.mpr c3
 have c3b1 : ((l0.length : Int) != (l1.length : Int)) = false := bne_eq_false_iff_eq.mpr c3
 have c3b2 : (l0.length == l1.length) = true := by first | simpa using c3 | (simp at c3 ⊢; omega)
 clear c3
 have H' := bA H
 clear H
 go_enter Try.func113, Try.ntmps113
 go_wp2
 repeat (go_quiet (fail); try go_wp2)
 go_loopg [13] k (fun kq v13 w' => ∃ (x13_1 : Int), v13 = .int .i64 x13_1 ∧ Aside0 (slices_Equal_Point.l0 kq l0 l1 (l0.length : Int) x13_1 = some r) ∧ Aside0 (kq ≤ k) ∧ Drawn0 w w')
 case atStart => exact ⟨(0), bs, H', ⟨Nat.le_refl _⟩, by repeat (first | exact Drawn0.refl _ | apply Drawn0.step)⟩
 clear H'
 try clear c1
 try clear p2
 try clear c3
 try clear c3b0
 try clear c3b1
 try clear c3b2
 obtain ⟨x13_1, rfl, HA, HK1, ⟨m1, rfl⟩⟩ := hrel
 cases gk with
 | zero => exact absurd HA.out (by simp [slices_Equal_Point.l0])
 | succ k1 =>
  have H := HA.out
  clear HA
  simp only [slices_Equal_Point.l0] at H
  by_cases c4 : x13_1 < (l0.length : Int)
  rotate_left
  ·rw [if_neg c4] at H
   have c4b0 : decide (x13_1 < (l0.length : Int)) = false := decide_eq_false c4
   clear c4
   obtain rfl := Option.some.inj H
   go_wp2
   repeat (go_quiet (fail); try go_wp2)
   go_ret
   exact bD
  rw [if_pos c4] at H
  have c4b0 : decide (x13_1 < (l0.length : Int)) = true := decide_eq_true c4
  clear c4
  by_cases c5 : 0 ≤ x13_1
  rotate_left
  ·rw [if_neg c5] at H
   exact absurd H (by simp)
  rw [if_pos c5] at H
  have c5b0 : decide (0 ≤ x13_1) = true := decide_eq_true c5
  clear c5
  by_cases c6 : x13_1 < (l0.length : Int)
  rotate_left
  ·rw [if_neg c6] at H
   exact absurd H (by simp)
  rw [if_pos c6] at H
  have c6b0 : decide (x13_1 < (l0.length : Int)) = true := decide_eq_true c6
  clear c6
  by_cases c7 : x13_1 < (l1.length : Int)
  rotate_left
  ·rw [if_neg c7] at H
   exact absurd H (by simp)
  rw [if_pos c7] at H
  have c7b0 : decide (x13_1 < (l1.length : Int)) = true := decide_eq_true c7
  clear c7
  by_cases c8 : (!(((rd_T41 l0 x13_1).f0) == ((rd_T41 l1 x13_1).f0)) || (!(((rd_T41 l0 x13_1).f1) == ((rd_T41 l1 x13_1).f1)))) = true
  ·rw [if_pos c8] at H
   have c8b0 : (!(((rd_T41 l0 x13_1).f0) == ((rd_T41 l1 x13_1).f0)) || (!(((rd_T41 l0 x13_1).f1) == ((rd_T41 l1 x13_1).f1)))) = true := c8
   clear c8
   obtain rfl := Option.some.inj H
   have p260 : 0 ≤ (x13_1 : Int) := bo
   have q260 : x13_1 < (l0.length : Int) := bo
   obtain ⟨ad260, e260, hx260_0, hx260_1⟩ := at_T41 HR0.out x13_1 p260 q260
   cases e260
   replace p260 := eq_true p260
   replace q260 := eq_true q260
   have p261 : 0 ≤ (x13_1 : Int) := bo
   have q261 : x13_1 < (l1.length : Int) := bo
   obtain ⟨ad261, e261, hx261_0, hx261_1⟩ := at_T41 HR1.out x13_1 p261 q261
   cases e261
   replace p261 := eq_true p261
   replace q261 := eq_true q261
   go_wp2
   repeat (go_quiet (fail); try go_wp2)
   go_ret
   exact bD
  rw [if_neg c8] at H
  have c8b0 : (!(((rd_T41 l0 x13_1).f0) == ((rd_T41 l1 x13_1).f0)) || (!(((rd_T41 l0 x13_1).f1) == ((rd_T41 l1 x13_1).f1)))) = false := by simpa using c8
  clear c8
  have H' := bA H
  clear H
  have p260 : 0 ≤ (x13_1 : Int) := bo
  have q260 : x13_1 < (l0.length : Int) := bo
  obtain ⟨ad260, e260, hx260_0, hx260_1⟩ := at_T41 HR0.out x13_1 p260 q260
  cases e260
  replace p260 := eq_true p260
  replace q260 := eq_true q260
  have p261 : 0 ≤ (x13_1 : Int) := bo
  have q261 : x13_1 < (l1.length : Int) := bo
  obtain ⟨ad261, e261, hx261_0, hx261_1⟩ := at_T41 HR1.out x13_1 p261 q261
  cases e261
  replace p261 := eq_true p261
  replace q261 := eq_true q261
  go_wp2
  repeat (go_quiet (fail); try go_wp2)
  go_roundg k1
  case measure => have := HK1.out; omega
  case rel => exact ⟨(wrap64 (x13_1 + 1)), bs, H', ⟨by have := HK1.out; omega⟩, by repeat (first | exact Drawn0.refl _ | apply Drawn0.step)⟩
/-! ### rules_samePhase: function 99 -/
def rules_samePhase.f (k : Nat) (l0_0 : List (S41)) (a0_1 : Int) (a0_2 : Int) (a0_3 : Int) (a0_4 : Int) (l1_0 : List (S41)) (a1_1 : Int) (a1_2 : Int) (a1_3 : Int) (a1_4 : Int) : Option (Bool) := (slices_Equal_Point.f k l0_0 l1_0).bind fun t264 => (if t264 = true then (if a0_1 = a1_1 then (if a0_2 = a1_2 then (if a0_3 = a1_3 then (some (a0_4 == a1_4)) else (some false)) else (some false)) else (some false)) else (some false))
theorem rules_samePhase.mono : ∀ a0 a1 a2 a3 a4 a5 a6 a7 a8 a9 k, LeO (rules_samePhase.f k a0 a1 a2 a3 a4 a5 a6 a7 a8 a9) (rules_samePhase.f (k + 1) a0 a1 a2 a3 a4 a5 a6 a7 a8 a9) := by
 intro a0 a1 a2 a3 a4 a5 a6 a7 a8 a9 k
 unfold rules_samePhase.f
 have m0_ := @slices_Equal_Point.mono
 exact bMo
set_option maxHeartbeats 8000000 in
set_option maxRecDepth 100000 in
theorem rules_samePhase.calls (k : Nat) (A0_0 : Option Addr) (c0_0 : Nat) (l0_0 : List (S41)) (a0_1 : Int) (a0_2 : Int) (a0_3 : Int) (a0_4 : Int) (A1_0 : Option Addr) (c1_0 : Nat) (l1_0 : List (S41)) (a1_1 : Int) (a1_2 : Int) (a1_3 : Int) (a1_4 : Int) (r : Bool) (w : World) (hr0_0 : Kd.C k41 w A0_0 l0_0.length l0_0) (hc0_0 : l0_0.length ≤ c0_0) (hr1_0 : Kd.C k41 w A1_0 l1_0.length l1_0) (hc1_0 : l1_0.length ≤ c1_0) (h : rules_samePhase.f k l0_0 a0_1 a0_2 a0_3 a0_4 l1_0 a1_1 a1_2 a1_3 a1_4 = some r) :
  Calls Try.prog 99 #[.agg #[.slice A0_0 l0_0.length c0_0, .int .i64 a0_1, .int .i64 a0_2, .int .i64 a0_3, .int .i64 a0_4], .agg #[.slice A1_0 l1_0.length c1_0, .int .i64 a1_1, .int .i64 a1_2, .int .i64 a1_3, .int .i64 a1_4]] w fun e w' => e = .returned (.bool r) ∧ Below w.heap.size w w' := by
 have hu30 := Try.underlying30
 have HR0_0 := bA hr0_0
 have HC0_0 := bA hc0_0
 clear hr0_0 hc0_0
 have HR1_0 := bA hr1_0
 have HC1_0 := bA hc1_0
 clear hr1_0 hc1_0
 have HB := bA (Below.refl w.heap.size w)
 have H : ((slices_Equal_Point.f k l0_0 l1_0).bind fun t264 => (if t264 = true then (if a0_1 = a1_1 then (if a0_2 = a1_2 then (if a0_3 = a1_3 then (some (a0_4 == a1_4)) else (some false)) else (some false)) else (some false)) else (some false))) = some r := h
 clear h
 replace H := Option.bind_eq_some_iff.mp H
 obtain ⟨t264, A30, H⟩ := H
 have A3 := bA A30
 clear A30
 by_cases c4 : t264 = true
 subst c4
 rw [if_pos rfl] at H
 by_cases c5 : a0_1 = a1_1
 rw [if_pos c5] at H
 have c5b0 : (a0_1 == a1_1) = true := beq_iff_eq.mpr c5
 have c5b1 : (a0_1 != a1_1) = false := bne_eq_false_iff_eq.mpr c5
 clear c5
 by_cases c6 : a0_2 = a1_2
 rw [if_pos c6] at H
 have c6b0 : (a0_2 == a1_2) = true := beq_iff_eq.mpr c6
 have c6b1 : (a0_2 != a1_2) = false := bne_eq_false_iff_eq.mpr c6
 clear c6
 by_cases c7 : a0_3 = a1_3
 rw [if_pos c7] at H
 have c7b0 : (a0_3 == a1_3) = true := beq_iff_eq.mpr c7
 have c7b1 : (a0_3 != a1_3) = false := bne_eq_false_iff_eq.mpr c7
 clear c7
 obtain rfl := Option.some.inj H
 rotate_left
 rw [if_neg c7] at H
 have c7b0 : (a0_3 == a1_3) = false := beq_eq_false_iff_ne.mpr c7
 have c7b1 : (a0_3 != a1_3) = true := bne_iff_ne.mpr c7
 obtain rfl := Option.some.inj H
 rotate_left
 rw [if_neg c6] at H
 have c6b0 : (a0_2 == a1_2) = false := beq_eq_false_iff_ne.mpr c6
 have c6b1 : (a0_2 != a1_2) = true := bne_iff_ne.mpr c6
 obtain rfl := Option.some.inj H
 rotate_left
 rw [if_neg c5] at H
 have c5b0 : (a0_1 == a1_1) = false := beq_eq_false_iff_ne.mpr c5
 have c5b1 : (a0_1 != a1_1) = true := bne_iff_ne.mpr c5
 obtain rfl := Option.some.inj H
 rotate_left
 replace c4 := Bool.eq_false_iff.mpr c4
 subst c4
 rw [if_neg bn] at H
 obtain rfl := Option.some.inj H
 rotate_left
 all_goals go_enter Try.func99, Try.ntmps99
 all_goals go_wp2_with (first | ((with_reducible refine gate_dst (N := 2) rfl ?_); refine bE (N := 2) (cs := #[.slice A0_0 l0_0.length c0_0, .int .i64 a0_1, .int .i64 a0_2, .int .i64 a0_3, .int .i64 a0_4]) (t := 30) ?_; intro gb262 hg wz0 hbox hb; have BK262 := bA (hbox); have GW262 := bA (bZ hg); have GE262 := bA (bZ hg); replace HB := bA (bS hb); clear hb hbox hg) | ((with_reducible refine gate_dst (N := 3) rfl ?_); refine bE (N := 3) (cs := #[.slice A1_0 l1_0.length c1_0, .int .i64 a1_1, .int .i64 a1_2, .int .i64 a1_3, .int .i64 a1_4]) (t := 30) ?_; intro gb263 hg wz1 hbox hb; have BK263 := bA (hbox); have GW263 := bA (bZ hg); have GE263 := bA (bZ hg); have NB262_263 := bA (bL BK262 hg); have NB263_262 := bA (bG BK262 hg); replace BK262 := bA (bB BK262 hb); replace HB := bA (bS hb); clear hb hbox hg; have hz1 := NB262_263.out; have hz2 := NB263_262.out; obtain ⟨hz3, hz4, hz5, hz6, hz7, hz8, hz9, hz10, hz11, hz12⟩ := bc5 BK262; obtain ⟨hz13, hz14, hz15, hz16, hz17, hz18, hz19, hz20, hz21, hz22⟩ := bc5 BK263) | ((first | ((with_reducible refine gate_callee (f := 113) rfl ?_); refine bC (some 9) Try.func113 #[.slice A0_0 l0_0.length c0_0, .slice A1_0 l1_0.length c1_0] ?_) | go_at_call 113); (with_reducible refine (slices_Equal_Point.calls k _ _ l0_0 _ _ l1_0 true _ ?side1 ?side2 ?side3 ?side4 A3.out).mono ?_); (case side1 => exact bQ HR0_0); (case side2 => exact HC0_0.out); (case side3 => exact bQ HR1_0); (case side4 => exact HC1_0.out); rintro e w' ⟨rfl, ⟨nd, rfl⟩⟩; (first | refine ⟨_, rfl, ?_⟩ | skip)) | ((first | ((with_reducible refine gate_callee (f := 113) rfl ?_); refine bC (some 9) Try.func113 #[.slice A0_0 l0_0.length c0_0, .slice A1_0 l1_0.length c1_0] ?_) | go_at_call 113); (with_reducible refine (slices_Equal_Point.calls k _ _ l0_0 _ _ l1_0 false _ ?side1 ?side2 ?side3 ?side4 A3.out).mono ?_); (case side1 => exact bQ HR0_0); (case side2 => exact HC0_0.out); (case side3 => exact bQ HR1_0); (case side4 => exact HC1_0.out); rintro e w' ⟨rfl, ⟨nd, rfl⟩⟩; (first | refine ⟨_, rfl, ?_⟩ | skip)))
 all_goals (go_ret; exact bF)
/-! ### slices_EqualFunc_Phase_F_rules_samePhase: function 1000008 -/
def slices_EqualFunc_Phase_F_rules_samePhase.l0 : Nat → List (S30) → List (S30) → Int → Int → Option (Bool)
 | 0, _, _, _, _ => none
 | k + 1, x1, x15, x16, x17 => if x17 < x16 then (if 0 ≤ x17 then (if x17 < (x15.length : Int) then (if x17 < (x1.length : Int) then ((rules_samePhase.f k ((rd_T30 x15 x17).f0) ((rd_T30 x15 x17).f1) ((rd_T30 x15 x17).f2) ((rd_T30 x15 x17).f3) ((rd_T30 x15 x17).f4) ((rd_T30 x1 x17).f0) ((rd_T30 x1 x17).f1) ((rd_T30 x1 x17).f2) ((rd_T30 x1 x17).f3) ((rd_T30 x1 x17).f4)).bind fun t269 => (if t269 = true then (slices_EqualFunc_Phase_F_rules_samePhase.l0 k x1 x15 x16 (wrap64 (x17 + 1))) else (some false))) else (none)) else (none)) else (none)) else (some true)
def slices_EqualFunc_Phase_F_rules_samePhase.f (k : Nat) (l0 : List (S30)) (l1 : List (S30))  : Option (Bool) := if (l0.length : Int) = (l1.length : Int) then (slices_EqualFunc_Phase_F_rules_samePhase.l0 k l1 l0 (l0.length : Int) 0) else (some false)
theorem slices_EqualFunc_Phase_F_rules_samePhase.mono_l : ∀ k, (∀ y0 y1 y2 y3, LeO (slices_EqualFunc_Phase_F_rules_samePhase.l0 k y0 y1 y2 y3) (slices_EqualFunc_Phase_F_rules_samePhase.l0 (k + 1) y0 y1 y2 y3))
 | 0 => fun _ _ _ _ r h => by simp [slices_EqualFunc_Phase_F_rules_samePhase.l0] at h
 | k + 1 => by
  have ih0 := slices_EqualFunc_Phase_F_rules_samePhase.mono_l k
  ·intro y0 y1 y2 y3
   unfold slices_EqualFunc_Phase_F_rules_samePhase.l0
   have m0_ := @rules_samePhase.mono
   exact bMo
theorem slices_EqualFunc_Phase_F_rules_samePhase.mono : ∀ a0 a1 k, LeO (slices_EqualFunc_Phase_F_rules_samePhase.f k a0 a1) (slices_EqualFunc_Phase_F_rules_samePhase.f (k + 1) a0 a1) := by
 intro a0 a1 k
 have ih0 := slices_EqualFunc_Phase_F_rules_samePhase.mono_l k
 unfold slices_EqualFunc_Phase_F_rules_samePhase.f
 have m0_ := @rules_samePhase.mono
 exact bMo
set_option maxHeartbeats 8000000 in
set_option maxRecDepth 100000 in
theorem slices_EqualFunc_Phase_F_rules_samePhase.calls (k : Nat) (A0 : Option Addr) (c0 : Nat) (l0 : List (S30)) (A1 : Option Addr) (c1 : Nat) (l1 : List (S30))  (r : Bool) (w : World) (hr0 : Kd.C k30 w A0 l0.length l0) (hc0 : l0.length ≤ c0) (hr1 : Kd.C k30 w A1 l1.length l1) (hc1 : l1.length ≤ c1) (h : slices_EqualFunc_Phase_F_rules_samePhase.f k l0 l1 = some r) :
  Calls Try.prog 98 #[.slice A0 l0.length c0, .slice A1 l1.length c1, .func (.func 99) #[] #[]] w fun e w' => e = .returned (.bool r) ∧ Below w.heap.size w w' := by
 have hu30 := Try.underlying30
 have HR0 := bA hr0
 have HC0 := bA hc0
 clear hr0 hc0
 have HR1 := bA hr1
 have HC1 := bA hc1
 clear hr1 hc1
 have HB := bA (Below.refl w.heap.size w)
 have H : (if (l0.length : Int) = (l1.length : Int) then (slices_EqualFunc_Phase_F_rules_samePhase.l0 k l1 l0 (l0.length : Int) 0) else (some false)) = some r := h
 clear h
 by_cases c4 : (l0.length : Int) = (l1.length : Int)
 rotate_left
 ·rw [if_neg c4] at H
  have c4b0 : ((l0.length : Int) == (l1.length : Int)) = false := beq_eq_false_iff_ne.mpr c4
  have c4b1 : ((l0.length : Int) != (l1.length : Int)) = true := bne_iff_ne.mpr c4
  have c4b2 : (l0.length == l1.length) = false := by first | simpa using c4 | (simp at c4 ⊢; omega)
  obtain rfl := Option.some.inj H
  go_enter Try.func98, Try.ntmps98
  go_wp2
  go_ret
  exact bF
 rw [if_pos c4] at H
 have c4b0 : ((l0.length : Int) == (l1.length : Int)) = true := beq_iff_eq.mpr c4
 have c4b1 : ((l0.length : Int) != (l1.length : Int)) = false := bne_eq_false_iff_eq.mpr c4
 have c4b2 : (l0.length == l1.length) = true := by first | simpa using c4 | (simp at c4 ⊢; omega)
 clear c4
 have H' := bA H
 clear H
 go_enter Try.func98, Try.ntmps98
 go_wp2
 go_loopg [17] k (fun kq v17 w' => ∃ (x17_1 : Int), v17 = .int .i64 x17_1 ∧ Aside0 (slices_EqualFunc_Phase_F_rules_samePhase.l0 kq l1 l0 (l0.length : Int) x17_1 = some r) ∧ Aside0 (kq ≤ k) ∧ Aside0 (Below w.heap.size w w'))
 case atStart => exact ⟨(0), bs, H', ⟨Nat.le_refl _⟩, ⟨bX⟩⟩
 clear H'
 try clear c1
 try clear p2
 try clear c4
 try clear c4b0
 try clear c4b1
 try clear c4b2
 obtain ⟨x17_1, rfl, HA, HK1, HB⟩ := hrel
 cases gk with
 | zero => exact absurd HA.out (by simp [slices_EqualFunc_Phase_F_rules_samePhase.l0])
 | succ k1 =>
  have H := HA.out
  clear HA
  simp only [slices_EqualFunc_Phase_F_rules_samePhase.l0] at H
  by_cases c5 : x17_1 < (l0.length : Int)
  rw [if_pos c5] at H
  have c5b0 : decide (x17_1 < (l0.length : Int)) = true := decide_eq_true c5
  clear c5
  by_cases c6 : 0 ≤ x17_1
  rw [if_pos c6] at H
  have c6b0 : decide (0 ≤ x17_1) = true := decide_eq_true c6
  clear c6
  by_cases c7 : x17_1 < (l0.length : Int)
  rw [if_pos c7] at H
  have c7b0 : decide (x17_1 < (l0.length : Int)) = true := decide_eq_true c7
  clear c7
  by_cases c8 : x17_1 < (l1.length : Int)
  rw [if_pos c8] at H
  have c8b0 : decide (x17_1 < (l1.length : Int)) = true := decide_eq_true c8
  clear c8
  replace H := Option.bind_eq_some_iff.mp H
  obtain ⟨t269, A90, H⟩ := H
  have A9 := bA A90
  clear A90
  by_cases c10 : t269 = true
  subst c10
  rw [if_pos rfl] at H
  have H' := bA H
  clear H
  have p265 : 0 ≤ (x17_1 : Int) := bo
  have q265 : x17_1 < (l0.length : Int) := bo
  obtain ⟨ad265, A265_0, c265_0, e265, hx265_0, hx265_1, hx265_2, hx265_3, hx265_4, hl265_0, hi265_0⟩ := at_T30 HR0.out x17_1 p265 q265
  cases e265
  replace hx265_0 := bK hx265_0
  replace hx265_1 := bK hx265_1
  replace hx265_2 := bK hx265_2
  replace hx265_3 := bK hx265_3
  replace hx265_4 := bK hx265_4
  have HR265_0 := bA hi265_0
  have HC265_0 := bA hl265_0
  clear hi265_0 hl265_0
  replace p265 := eq_true p265
  replace q265 := eq_true q265
  rotate_left
  replace c10 := Bool.eq_false_iff.mpr c10
  subst c10
  rw [if_neg bn] at H
  obtain rfl := Option.some.inj H
  have p265 : 0 ≤ (x17_1 : Int) := bo
  have q265 : x17_1 < (l0.length : Int) := bo
  obtain ⟨ad265, A265_0, c265_0, e265, hx265_0, hx265_1, hx265_2, hx265_3, hx265_4, hl265_0, hi265_0⟩ := at_T30 HR0.out x17_1 p265 q265
  cases e265
  replace hx265_0 := bK hx265_0
  replace hx265_1 := bK hx265_1
  replace hx265_2 := bK hx265_2
  replace hx265_3 := bK hx265_3
  replace hx265_4 := bK hx265_4
  have HR265_0 := bA hi265_0
  have HC265_0 := bA hl265_0
  clear hi265_0 hl265_0
  replace p265 := eq_true p265
  replace q265 := eq_true q265
  rotate_left
  rw [if_neg c8] at H
  exact absurd H (by simp)
  rw [if_neg c7] at H
  exact absurd H (by simp)
  rw [if_neg c6] at H
  exact absurd H (by simp)
  rw [if_neg c5] at H
  have c5b0 : decide (x17_1 < (l0.length : Int)) = false := decide_eq_false c5
  clear c5
  obtain rfl := Option.some.inj H
  rotate_left
  all_goals go_wp2_with (first | ((with_reducible refine gate_dst (N := 8) rfl ?_); refine bE (N := 8) (cs := #[.slice none 0 0, .int .i64 0, .int .i64 0, .int .i64 0, .int .i64 0]) (t := 30) ?_; intro gb266 hg wz0 hbox hb; have BK266 := bA (hbox); have GW266 := bA (bZ hg); have GE266 := bA (bZ hg); replace HB := bA (bS hb); clear hb hbox hg; obtain ⟨hcz12_0, hcz12_1, hcz12_2, hcz12_3, hcz12_4, hfz12_0, hfz12_1, hfz12_2, hfz12_3, hfz12_4⟩ := bc5 BK266; have p267 : 0 ≤ (x17_1 : Int) := bo; have q267 : x17_1 < (l1.length : Int) := bo; obtain ⟨ad267, A267_0, c267_0, e267, hx267_0, hx267_1, hx267_2, hx267_3, hx267_4, hl267_0, hi267_0⟩ := at_T30 HR1.out x17_1 p267 q267; cases e267; have hn267_0 : ad267.block ≠ gb266 := Nat.ne_of_lt (Nat.lt_of_lt_of_le (by have := World.block_lt_of_cell? _ _ hx267_0; first | rwa [add_block] at this | exact this) GW266.out); have hn267_1 : ad267.block ≠ gb266 := Nat.ne_of_lt (Nat.lt_of_lt_of_le (by have := World.block_lt_of_cell? _ _ hx267_0; first | rwa [add_block] at this | exact this) GW266.out); have hn267_2 : ad267.block ≠ gb266 := Nat.ne_of_lt (Nat.lt_of_lt_of_le (by have := World.block_lt_of_cell? _ _ hx267_0; first | rwa [add_block] at this | exact this) GW266.out); have hn267_3 : ad267.block ≠ gb266 := Nat.ne_of_lt (Nat.lt_of_lt_of_le (by have := World.block_lt_of_cell? _ _ hx267_0; first | rwa [add_block] at this | exact this) GW266.out); have hn267_4 : ad267.block ≠ gb266 := Nat.ne_of_lt (Nat.lt_of_lt_of_le (by have := World.block_lt_of_cell? _ _ hx267_0; first | rwa [add_block] at this | exact this) GW266.out); replace hx267_0 := bK hx267_0; replace hx267_1 := bK hx267_1; replace hx267_2 := bK hx267_2; replace hx267_3 := bK hx267_3; replace hx267_4 := bK hx267_4; have HR267_0 := bA hi267_0; have HC267_0 := bA hl267_0; clear hi267_0 hl267_0; replace hx267_0 := (cell_far (p := ⟨gb266, 0, none⟩) (by first | (rw [add_block]; exact hn267_0) | (show (Addr.add _ _).block ≠ _; rw [add_block]; exact hn267_0) | exact hn267_0) (.slice A265_0 ((rd_T30 l0 x17_1).f0).length c265_0)).trans hx267_0; replace hx267_1 := (cell_far (p := ⟨gb266, 0, none⟩) (by first | (rw [add_block]; exact hn267_0) | (show (Addr.add _ _).block ≠ _; rw [add_block]; exact hn267_0) | exact hn267_0) (.slice A265_0 ((rd_T30 l0 x17_1).f0).length c265_0)).trans hx267_1; replace hx267_2 := (cell_far (p := ⟨gb266, 0, none⟩) (by first | (rw [add_block]; exact hn267_0) | (show (Addr.add _ _).block ≠ _; rw [add_block]; exact hn267_0) | exact hn267_0) (.slice A265_0 ((rd_T30 l0 x17_1).f0).length c265_0)).trans hx267_2; replace hx267_3 := (cell_far (p := ⟨gb266, 0, none⟩) (by first | (rw [add_block]; exact hn267_0) | (show (Addr.add _ _).block ≠ _; rw [add_block]; exact hn267_0) | exact hn267_0) (.slice A265_0 ((rd_T30 l0 x17_1).f0).length c265_0)).trans hx267_3; replace hx267_4 := (cell_far (p := ⟨gb266, 0, none⟩) (by first | (rw [add_block]; exact hn267_0) | (show (Addr.add _ _).block ≠ _; rw [add_block]; exact hn267_0) | exact hn267_0) (.slice A265_0 ((rd_T30 l0 x17_1).f0).length c265_0)).trans hx267_4; replace hx267_0 := (cell_far (p := ⟨gb266, 1, none⟩) (by first | (rw [add_block]; exact hn267_1) | (show (Addr.add _ _).block ≠ _; rw [add_block]; exact hn267_1) | exact hn267_1) (.int .i64 ((rd_T30 l0 x17_1).f1))).trans hx267_0; replace hx267_1 := (cell_far (p := ⟨gb266, 1, none⟩) (by first | (rw [add_block]; exact hn267_1) | (show (Addr.add _ _).block ≠ _; rw [add_block]; exact hn267_1) | exact hn267_1) (.int .i64 ((rd_T30 l0 x17_1).f1))).trans hx267_1; replace hx267_2 := (cell_far (p := ⟨gb266, 1, none⟩) (by first | (rw [add_block]; exact hn267_1) | (show (Addr.add _ _).block ≠ _; rw [add_block]; exact hn267_1) | exact hn267_1) (.int .i64 ((rd_T30 l0 x17_1).f1))).trans hx267_2; replace hx267_3 := (cell_far (p := ⟨gb266, 1, none⟩) (by first | (rw [add_block]; exact hn267_1) | (show (Addr.add _ _).block ≠ _; rw [add_block]; exact hn267_1) | exact hn267_1) (.int .i64 ((rd_T30 l0 x17_1).f1))).trans hx267_3; replace hx267_4 := (cell_far (p := ⟨gb266, 1, none⟩) (by first | (rw [add_block]; exact hn267_1) | (show (Addr.add _ _).block ≠ _; rw [add_block]; exact hn267_1) | exact hn267_1) (.int .i64 ((rd_T30 l0 x17_1).f1))).trans hx267_4; replace hx267_0 := (cell_far (p := ⟨gb266, 2, none⟩) (by first | (rw [add_block]; exact hn267_2) | (show (Addr.add _ _).block ≠ _; rw [add_block]; exact hn267_2) | exact hn267_2) (.int .i64 ((rd_T30 l0 x17_1).f2))).trans hx267_0; replace hx267_1 := (cell_far (p := ⟨gb266, 2, none⟩) (by first | (rw [add_block]; exact hn267_2) | (show (Addr.add _ _).block ≠ _; rw [add_block]; exact hn267_2) | exact hn267_2) (.int .i64 ((rd_T30 l0 x17_1).f2))).trans hx267_1; replace hx267_2 := (cell_far (p := ⟨gb266, 2, none⟩) (by first | (rw [add_block]; exact hn267_2) | (show (Addr.add _ _).block ≠ _; rw [add_block]; exact hn267_2) | exact hn267_2) (.int .i64 ((rd_T30 l0 x17_1).f2))).trans hx267_2; replace hx267_3 := (cell_far (p := ⟨gb266, 2, none⟩) (by first | (rw [add_block]; exact hn267_2) | (show (Addr.add _ _).block ≠ _; rw [add_block]; exact hn267_2) | exact hn267_2) (.int .i64 ((rd_T30 l0 x17_1).f2))).trans hx267_3; replace hx267_4 := (cell_far (p := ⟨gb266, 2, none⟩) (by first | (rw [add_block]; exact hn267_2) | (show (Addr.add _ _).block ≠ _; rw [add_block]; exact hn267_2) | exact hn267_2) (.int .i64 ((rd_T30 l0 x17_1).f2))).trans hx267_4; replace hx267_0 := (cell_far (p := ⟨gb266, 3, none⟩) (by first | (rw [add_block]; exact hn267_3) | (show (Addr.add _ _).block ≠ _; rw [add_block]; exact hn267_3) | exact hn267_3) (.int .i64 ((rd_T30 l0 x17_1).f3))).trans hx267_0; replace hx267_1 := (cell_far (p := ⟨gb266, 3, none⟩) (by first | (rw [add_block]; exact hn267_3) | (show (Addr.add _ _).block ≠ _; rw [add_block]; exact hn267_3) | exact hn267_3) (.int .i64 ((rd_T30 l0 x17_1).f3))).trans hx267_1; replace hx267_2 := (cell_far (p := ⟨gb266, 3, none⟩) (by first | (rw [add_block]; exact hn267_3) | (show (Addr.add _ _).block ≠ _; rw [add_block]; exact hn267_3) | exact hn267_3) (.int .i64 ((rd_T30 l0 x17_1).f3))).trans hx267_2; replace hx267_3 := (cell_far (p := ⟨gb266, 3, none⟩) (by first | (rw [add_block]; exact hn267_3) | (show (Addr.add _ _).block ≠ _; rw [add_block]; exact hn267_3) | exact hn267_3) (.int .i64 ((rd_T30 l0 x17_1).f3))).trans hx267_3; replace hx267_4 := (cell_far (p := ⟨gb266, 3, none⟩) (by first | (rw [add_block]; exact hn267_3) | (show (Addr.add _ _).block ≠ _; rw [add_block]; exact hn267_3) | exact hn267_3) (.int .i64 ((rd_T30 l0 x17_1).f3))).trans hx267_4; replace hx267_0 := (cell_far (p := ⟨gb266, 4, none⟩) (by first | (rw [add_block]; exact hn267_4) | (show (Addr.add _ _).block ≠ _; rw [add_block]; exact hn267_4) | exact hn267_4) (.int .i64 ((rd_T30 l0 x17_1).f4))).trans hx267_0; replace hx267_1 := (cell_far (p := ⟨gb266, 4, none⟩) (by first | (rw [add_block]; exact hn267_4) | (show (Addr.add _ _).block ≠ _; rw [add_block]; exact hn267_4) | exact hn267_4) (.int .i64 ((rd_T30 l0 x17_1).f4))).trans hx267_1; replace hx267_2 := (cell_far (p := ⟨gb266, 4, none⟩) (by first | (rw [add_block]; exact hn267_4) | (show (Addr.add _ _).block ≠ _; rw [add_block]; exact hn267_4) | exact hn267_4) (.int .i64 ((rd_T30 l0 x17_1).f4))).trans hx267_2; replace hx267_3 := (cell_far (p := ⟨gb266, 4, none⟩) (by first | (rw [add_block]; exact hn267_4) | (show (Addr.add _ _).block ≠ _; rw [add_block]; exact hn267_4) | exact hn267_4) (.int .i64 ((rd_T30 l0 x17_1).f4))).trans hx267_3; replace hx267_4 := (cell_far (p := ⟨gb266, 4, none⟩) (by first | (rw [add_block]; exact hn267_4) | (show (Addr.add _ _).block ≠ _; rw [add_block]; exact hn267_4) | exact hn267_4) (.int .i64 ((rd_T30 l0 x17_1).f4))).trans hx267_4; clear hn267_0; clear hn267_1; clear hn267_2; clear hn267_3; clear hn267_4; replace p267 := eq_true p267; replace q267 := eq_true q267) | ((with_reducible refine gate_dst (N := 9) rfl ?_); refine bE (N := 9) (cs := #[.slice none 0 0, .int .i64 0, .int .i64 0, .int .i64 0, .int .i64 0]) (t := 30) ?_; intro gb268 hg wz1 hbox hb; have BK268 := bA (hbox); have GW268 := bA (bZ hg); have GE268 := bA (bZ hg); have NB266_268 := bA ((by rw [hg]; exact Nat.ne_of_lt (blk_lt (g := gb266) (o := .cells #[.slice A265_0 ((rd_T30 l0 x17_1).f0).length c265_0, .int .i64 ((rd_T30 l0 x17_1).f1), .int .i64 ((rd_T30 l0 x17_1).f2), .int .i64 ((rd_T30 l0 x17_1).f3), .int .i64 ((rd_T30 l0 x17_1).f4)] 30 (0, 0)) (by (with_reducible repeat (first | refine blk_drewN ?_ _ | refine blk_drew ?_ | refine blk_alloc ?_ _)); refine blk_put (cs := #[.slice A265_0 ((rd_T30 l0 x17_1).f0).length c265_0, .int .i64 ((rd_T30 l0 x17_1).f1), .int .i64 ((rd_T30 l0 x17_1).f2), .int .i64 ((rd_T30 l0 x17_1).f3), .int .i64 0]) ?_ 4 _ rfl; (with_reducible repeat (first | refine blk_drewN ?_ _ | refine blk_drew ?_ | refine blk_alloc ?_ _)); refine blk_put (cs := #[.slice A265_0 ((rd_T30 l0 x17_1).f0).length c265_0, .int .i64 ((rd_T30 l0 x17_1).f1), .int .i64 ((rd_T30 l0 x17_1).f2), .int .i64 0, .int .i64 0]) ?_ 3 _ rfl; (with_reducible repeat (first | refine blk_drewN ?_ _ | refine blk_drew ?_ | refine blk_alloc ?_ _)); refine blk_put (cs := #[.slice A265_0 ((rd_T30 l0 x17_1).f0).length c265_0, .int .i64 ((rd_T30 l0 x17_1).f1), .int .i64 0, .int .i64 0, .int .i64 0]) ?_ 2 _ rfl; (with_reducible repeat (first | refine blk_drewN ?_ _ | refine blk_drew ?_ | refine blk_alloc ?_ _)); refine blk_put (cs := #[.slice A265_0 ((rd_T30 l0 x17_1).f0).length c265_0, .int .i64 0, .int .i64 0, .int .i64 0, .int .i64 0]) ?_ 1 _ rfl; (with_reducible repeat (first | refine blk_drewN ?_ _ | refine blk_drew ?_ | refine blk_alloc ?_ _)); refine blk_put (cs := #[.slice none 0 0, .int .i64 0, .int .i64 0, .int .i64 0, .int .i64 0]) ?_ 0 _ rfl; (with_reducible repeat (first | refine blk_drewN ?_ _ | refine blk_drew ?_ | refine blk_alloc ?_ _)); exact BK266.out)) : gb266 ≠ gb268)); have NB268_266 := bA ((by rw [hg]; exact Nat.ne_of_gt (blk_lt (g := gb266) (o := .cells #[.slice A265_0 ((rd_T30 l0 x17_1).f0).length c265_0, .int .i64 ((rd_T30 l0 x17_1).f1), .int .i64 ((rd_T30 l0 x17_1).f2), .int .i64 ((rd_T30 l0 x17_1).f3), .int .i64 ((rd_T30 l0 x17_1).f4)] 30 (0, 0)) (by (with_reducible repeat (first | refine blk_drewN ?_ _ | refine blk_drew ?_ | refine blk_alloc ?_ _)); refine blk_put (cs := #[.slice A265_0 ((rd_T30 l0 x17_1).f0).length c265_0, .int .i64 ((rd_T30 l0 x17_1).f1), .int .i64 ((rd_T30 l0 x17_1).f2), .int .i64 ((rd_T30 l0 x17_1).f3), .int .i64 0]) ?_ 4 _ rfl; (with_reducible repeat (first | refine blk_drewN ?_ _ | refine blk_drew ?_ | refine blk_alloc ?_ _)); refine blk_put (cs := #[.slice A265_0 ((rd_T30 l0 x17_1).f0).length c265_0, .int .i64 ((rd_T30 l0 x17_1).f1), .int .i64 ((rd_T30 l0 x17_1).f2), .int .i64 0, .int .i64 0]) ?_ 3 _ rfl; (with_reducible repeat (first | refine blk_drewN ?_ _ | refine blk_drew ?_ | refine blk_alloc ?_ _)); refine blk_put (cs := #[.slice A265_0 ((rd_T30 l0 x17_1).f0).length c265_0, .int .i64 ((rd_T30 l0 x17_1).f1), .int .i64 0, .int .i64 0, .int .i64 0]) ?_ 2 _ rfl; (with_reducible repeat (first | refine blk_drewN ?_ _ | refine blk_drew ?_ | refine blk_alloc ?_ _)); refine blk_put (cs := #[.slice A265_0 ((rd_T30 l0 x17_1).f0).length c265_0, .int .i64 0, .int .i64 0, .int .i64 0, .int .i64 0]) ?_ 1 _ rfl; (with_reducible repeat (first | refine blk_drewN ?_ _ | refine blk_drew ?_ | refine blk_alloc ?_ _)); refine blk_put (cs := #[.slice none 0 0, .int .i64 0, .int .i64 0, .int .i64 0, .int .i64 0]) ?_ 0 _ rfl; (with_reducible repeat (first | refine blk_drewN ?_ _ | refine blk_drew ?_ | refine blk_alloc ?_ _)); exact BK266.out)) : gb268 ≠ gb266)); replace BK266 := bA (blk_below (g := gb266) (o := .cells #[.slice A265_0 ((rd_T30 l0 x17_1).f0).length c265_0, .int .i64 ((rd_T30 l0 x17_1).f1), .int .i64 ((rd_T30 l0 x17_1).f2), .int .i64 ((rd_T30 l0 x17_1).f3), .int .i64 ((rd_T30 l0 x17_1).f4)] 30 (0, 0)) (by (with_reducible repeat (first | refine blk_drewN ?_ _ | refine blk_drew ?_ | refine blk_alloc ?_ _)); refine blk_put (cs := #[.slice A265_0 ((rd_T30 l0 x17_1).f0).length c265_0, .int .i64 ((rd_T30 l0 x17_1).f1), .int .i64 ((rd_T30 l0 x17_1).f2), .int .i64 ((rd_T30 l0 x17_1).f3), .int .i64 0]) ?_ 4 _ rfl; (with_reducible repeat (first | refine blk_drewN ?_ _ | refine blk_drew ?_ | refine blk_alloc ?_ _)); refine blk_put (cs := #[.slice A265_0 ((rd_T30 l0 x17_1).f0).length c265_0, .int .i64 ((rd_T30 l0 x17_1).f1), .int .i64 ((rd_T30 l0 x17_1).f2), .int .i64 0, .int .i64 0]) ?_ 3 _ rfl; (with_reducible repeat (first | refine blk_drewN ?_ _ | refine blk_drew ?_ | refine blk_alloc ?_ _)); refine blk_put (cs := #[.slice A265_0 ((rd_T30 l0 x17_1).f0).length c265_0, .int .i64 ((rd_T30 l0 x17_1).f1), .int .i64 0, .int .i64 0, .int .i64 0]) ?_ 2 _ rfl; (with_reducible repeat (first | refine blk_drewN ?_ _ | refine blk_drew ?_ | refine blk_alloc ?_ _)); refine blk_put (cs := #[.slice A265_0 ((rd_T30 l0 x17_1).f0).length c265_0, .int .i64 0, .int .i64 0, .int .i64 0, .int .i64 0]) ?_ 1 _ rfl; (with_reducible repeat (first | refine blk_drewN ?_ _ | refine blk_drew ?_ | refine blk_alloc ?_ _)); refine blk_put (cs := #[.slice none 0 0, .int .i64 0, .int .i64 0, .int .i64 0, .int .i64 0]) ?_ 0 _ rfl; (with_reducible repeat (first | refine blk_drewN ?_ _ | refine blk_drew ?_ | refine blk_alloc ?_ _)); exact BK266.out) hb); replace HB := bA (bS hb); clear hb hbox hg; have hz1 := NB268_266.out; have hz2 := NB266_268.out; obtain ⟨hz3, hz4, hz5, hz6, hz7, hz8, hz9, hz10, hz11, hz12⟩ := bc5 BK268; obtain ⟨hz13, hz14, hz15, hz16, hz17, hz18, hz19, hz20, hz21, hz22⟩ := bc5 BK266) | (go_at_call 99; (with_reducible refine (rules_samePhase.calls k1 _ _ ((rd_T30 l0 x17_1).f0) ((rd_T30 l0 x17_1).f1) ((rd_T30 l0 x17_1).f2) ((rd_T30 l0 x17_1).f3) ((rd_T30 l0 x17_1).f4) _ _ ((rd_T30 l1 x17_1).f0) ((rd_T30 l1 x17_1).f1) ((rd_T30 l1 x17_1).f2) ((rd_T30 l1 x17_1).f3) ((rd_T30 l1 x17_1).f4) true _ ?side1 ?side2 ?side3 ?side4 A9.out).mono ?_); (case side1 => exact Kd.C_below HR265_0.out bX); (case side2 => exact HC265_0.out); (case side3 => exact Kd.C_below HR267_0.out bX); (case side4 => exact HC267_0.out); rintro e wz2 ⟨rfl, hb⟩; replace BK266 := bA (blk_below (g := gb266) (o := .cells #[.slice A265_0 ((rd_T30 l0 x17_1).f0).length c265_0, .int .i64 ((rd_T30 l0 x17_1).f1), .int .i64 ((rd_T30 l0 x17_1).f2), .int .i64 ((rd_T30 l0 x17_1).f3), .int .i64 ((rd_T30 l0 x17_1).f4)] 30 (0, 0)) (by (repeat ((with_reducible repeat (first | refine blk_drewN ?_ _ | refine blk_drew ?_ | refine blk_alloc ?_ _)); refine blk_far ?_ NB266_268.out _)); (with_reducible repeat (first | refine blk_drewN ?_ _ | refine blk_drew ?_ | refine blk_alloc ?_ _)); exact BK266.out) hb); replace BK268 := bA (blk_below (g := gb268) (o := .cells #[.slice A267_0 ((rd_T30 l1 x17_1).f0).length c267_0, .int .i64 ((rd_T30 l1 x17_1).f1), .int .i64 ((rd_T30 l1 x17_1).f2), .int .i64 ((rd_T30 l1 x17_1).f3), .int .i64 ((rd_T30 l1 x17_1).f4)] 30 (0, 0)) (by (with_reducible repeat (first | refine blk_drewN ?_ _ | refine blk_drew ?_ | refine blk_alloc ?_ _)); refine blk_put (cs := #[.slice A267_0 ((rd_T30 l1 x17_1).f0).length c267_0, .int .i64 ((rd_T30 l1 x17_1).f1), .int .i64 ((rd_T30 l1 x17_1).f2), .int .i64 ((rd_T30 l1 x17_1).f3), .int .i64 0]) ?_ 4 _ rfl; (with_reducible repeat (first | refine blk_drewN ?_ _ | refine blk_drew ?_ | refine blk_alloc ?_ _)); refine blk_put (cs := #[.slice A267_0 ((rd_T30 l1 x17_1).f0).length c267_0, .int .i64 ((rd_T30 l1 x17_1).f1), .int .i64 ((rd_T30 l1 x17_1).f2), .int .i64 0, .int .i64 0]) ?_ 3 _ rfl; (with_reducible repeat (first | refine blk_drewN ?_ _ | refine blk_drew ?_ | refine blk_alloc ?_ _)); refine blk_put (cs := #[.slice A267_0 ((rd_T30 l1 x17_1).f0).length c267_0, .int .i64 ((rd_T30 l1 x17_1).f1), .int .i64 0, .int .i64 0, .int .i64 0]) ?_ 2 _ rfl; (with_reducible repeat (first | refine blk_drewN ?_ _ | refine blk_drew ?_ | refine blk_alloc ?_ _)); refine blk_put (cs := #[.slice A267_0 ((rd_T30 l1 x17_1).f0).length c267_0, .int .i64 0, .int .i64 0, .int .i64 0, .int .i64 0]) ?_ 1 _ rfl; (with_reducible repeat (first | refine blk_drewN ?_ _ | refine blk_drew ?_ | refine blk_alloc ?_ _)); refine blk_put (cs := #[.slice none 0 0, .int .i64 0, .int .i64 0, .int .i64 0, .int .i64 0]) ?_ 0 _ rfl; (with_reducible repeat (first | refine blk_drewN ?_ _ | refine blk_drew ?_ | refine blk_alloc ?_ _)); exact BK268.out) hb); replace HB := bA (bS hb); (try clear hb)) | ((with_reducible refine gate_dst (N := 8) rfl ?_); refine bE (N := 8) (cs := #[.slice none 0 0, .int .i64 0, .int .i64 0, .int .i64 0, .int .i64 0]) (t := 30) ?_; intro gb266 hg wz0 hbox hb; have BK266 := bA (hbox); have GW266 := bA (bZ hg); have GE266 := bA (bZ hg); replace HB := bA (bS hb); clear hb hbox hg; obtain ⟨hcz19_0, hcz19_1, hcz19_2, hcz19_3, hcz19_4, hfz19_0, hfz19_1, hfz19_2, hfz19_3, hfz19_4⟩ := bc5 BK266; have p267 : 0 ≤ (x17_1 : Int) := bo; have q267 : x17_1 < (l1.length : Int) := bo; obtain ⟨ad267, A267_0, c267_0, e267, hx267_0, hx267_1, hx267_2, hx267_3, hx267_4, hl267_0, hi267_0⟩ := at_T30 HR1.out x17_1 p267 q267; cases e267; have hn267_0 : ad267.block ≠ gb266 := Nat.ne_of_lt (Nat.lt_of_lt_of_le (by have := World.block_lt_of_cell? _ _ hx267_0; first | rwa [add_block] at this | exact this) GW266.out); have hn267_1 : ad267.block ≠ gb266 := Nat.ne_of_lt (Nat.lt_of_lt_of_le (by have := World.block_lt_of_cell? _ _ hx267_0; first | rwa [add_block] at this | exact this) GW266.out); have hn267_2 : ad267.block ≠ gb266 := Nat.ne_of_lt (Nat.lt_of_lt_of_le (by have := World.block_lt_of_cell? _ _ hx267_0; first | rwa [add_block] at this | exact this) GW266.out); have hn267_3 : ad267.block ≠ gb266 := Nat.ne_of_lt (Nat.lt_of_lt_of_le (by have := World.block_lt_of_cell? _ _ hx267_0; first | rwa [add_block] at this | exact this) GW266.out); have hn267_4 : ad267.block ≠ gb266 := Nat.ne_of_lt (Nat.lt_of_lt_of_le (by have := World.block_lt_of_cell? _ _ hx267_0; first | rwa [add_block] at this | exact this) GW266.out); replace hx267_0 := bK hx267_0; replace hx267_1 := bK hx267_1; replace hx267_2 := bK hx267_2; replace hx267_3 := bK hx267_3; replace hx267_4 := bK hx267_4; have HR267_0 := bA hi267_0; have HC267_0 := bA hl267_0; clear hi267_0 hl267_0; replace hx267_0 := (cell_far (p := ⟨gb266, 0, none⟩) (by first | (rw [add_block]; exact hn267_0) | (show (Addr.add _ _).block ≠ _; rw [add_block]; exact hn267_0) | exact hn267_0) (.slice A265_0 ((rd_T30 l0 x17_1).f0).length c265_0)).trans hx267_0; replace hx267_1 := (cell_far (p := ⟨gb266, 0, none⟩) (by first | (rw [add_block]; exact hn267_0) | (show (Addr.add _ _).block ≠ _; rw [add_block]; exact hn267_0) | exact hn267_0) (.slice A265_0 ((rd_T30 l0 x17_1).f0).length c265_0)).trans hx267_1; replace hx267_2 := (cell_far (p := ⟨gb266, 0, none⟩) (by first | (rw [add_block]; exact hn267_0) | (show (Addr.add _ _).block ≠ _; rw [add_block]; exact hn267_0) | exact hn267_0) (.slice A265_0 ((rd_T30 l0 x17_1).f0).length c265_0)).trans hx267_2; replace hx267_3 := (cell_far (p := ⟨gb266, 0, none⟩) (by first | (rw [add_block]; exact hn267_0) | (show (Addr.add _ _).block ≠ _; rw [add_block]; exact hn267_0) | exact hn267_0) (.slice A265_0 ((rd_T30 l0 x17_1).f0).length c265_0)).trans hx267_3; replace hx267_4 := (cell_far (p := ⟨gb266, 0, none⟩) (by first | (rw [add_block]; exact hn267_0) | (show (Addr.add _ _).block ≠ _; rw [add_block]; exact hn267_0) | exact hn267_0) (.slice A265_0 ((rd_T30 l0 x17_1).f0).length c265_0)).trans hx267_4; replace hx267_0 := (cell_far (p := ⟨gb266, 1, none⟩) (by first | (rw [add_block]; exact hn267_1) | (show (Addr.add _ _).block ≠ _; rw [add_block]; exact hn267_1) | exact hn267_1) (.int .i64 ((rd_T30 l0 x17_1).f1))).trans hx267_0; replace hx267_1 := (cell_far (p := ⟨gb266, 1, none⟩) (by first | (rw [add_block]; exact hn267_1) | (show (Addr.add _ _).block ≠ _; rw [add_block]; exact hn267_1) | exact hn267_1) (.int .i64 ((rd_T30 l0 x17_1).f1))).trans hx267_1; replace hx267_2 := (cell_far (p := ⟨gb266, 1, none⟩) (by first | (rw [add_block]; exact hn267_1) | (show (Addr.add _ _).block ≠ _; rw [add_block]; exact hn267_1) | exact hn267_1) (.int .i64 ((rd_T30 l0 x17_1).f1))).trans hx267_2; replace hx267_3 := (cell_far (p := ⟨gb266, 1, none⟩) (by first | (rw [add_block]; exact hn267_1) | (show (Addr.add _ _).block ≠ _; rw [add_block]; exact hn267_1) | exact hn267_1) (.int .i64 ((rd_T30 l0 x17_1).f1))).trans hx267_3; replace hx267_4 := (cell_far (p := ⟨gb266, 1, none⟩) (by first | (rw [add_block]; exact hn267_1) | (show (Addr.add _ _).block ≠ _; rw [add_block]; exact hn267_1) | exact hn267_1) (.int .i64 ((rd_T30 l0 x17_1).f1))).trans hx267_4; replace hx267_0 := (cell_far (p := ⟨gb266, 2, none⟩) (by first | (rw [add_block]; exact hn267_2) | (show (Addr.add _ _).block ≠ _; rw [add_block]; exact hn267_2) | exact hn267_2) (.int .i64 ((rd_T30 l0 x17_1).f2))).trans hx267_0; replace hx267_1 := (cell_far (p := ⟨gb266, 2, none⟩) (by first | (rw [add_block]; exact hn267_2) | (show (Addr.add _ _).block ≠ _; rw [add_block]; exact hn267_2) | exact hn267_2) (.int .i64 ((rd_T30 l0 x17_1).f2))).trans hx267_1; replace hx267_2 := (cell_far (p := ⟨gb266, 2, none⟩) (by first | (rw [add_block]; exact hn267_2) | (show (Addr.add _ _).block ≠ _; rw [add_block]; exact hn267_2) | exact hn267_2) (.int .i64 ((rd_T30 l0 x17_1).f2))).trans hx267_2; replace hx267_3 := (cell_far (p := ⟨gb266, 2, none⟩) (by first | (rw [add_block]; exact hn267_2) | (show (Addr.add _ _).block ≠ _; rw [add_block]; exact hn267_2) | exact hn267_2) (.int .i64 ((rd_T30 l0 x17_1).f2))).trans hx267_3; replace hx267_4 := (cell_far (p := ⟨gb266, 2, none⟩) (by first | (rw [add_block]; exact hn267_2) | (show (Addr.add _ _).block ≠ _; rw [add_block]; exact hn267_2) | exact hn267_2) (.int .i64 ((rd_T30 l0 x17_1).f2))).trans hx267_4; replace hx267_0 := (cell_far (p := ⟨gb266, 3, none⟩) (by first | (rw [add_block]; exact hn267_3) | (show (Addr.add _ _).block ≠ _; rw [add_block]; exact hn267_3) | exact hn267_3) (.int .i64 ((rd_T30 l0 x17_1).f3))).trans hx267_0; replace hx267_1 := (cell_far (p := ⟨gb266, 3, none⟩) (by first | (rw [add_block]; exact hn267_3) | (show (Addr.add _ _).block ≠ _; rw [add_block]; exact hn267_3) | exact hn267_3) (.int .i64 ((rd_T30 l0 x17_1).f3))).trans hx267_1; replace hx267_2 := (cell_far (p := ⟨gb266, 3, none⟩) (by first | (rw [add_block]; exact hn267_3) | (show (Addr.add _ _).block ≠ _; rw [add_block]; exact hn267_3) | exact hn267_3) (.int .i64 ((rd_T30 l0 x17_1).f3))).trans hx267_2; replace hx267_3 := (cell_far (p := ⟨gb266, 3, none⟩) (by first | (rw [add_block]; exact hn267_3) | (show (Addr.add _ _).block ≠ _; rw [add_block]; exact hn267_3) | exact hn267_3) (.int .i64 ((rd_T30 l0 x17_1).f3))).trans hx267_3; replace hx267_4 := (cell_far (p := ⟨gb266, 3, none⟩) (by first | (rw [add_block]; exact hn267_3) | (show (Addr.add _ _).block ≠ _; rw [add_block]; exact hn267_3) | exact hn267_3) (.int .i64 ((rd_T30 l0 x17_1).f3))).trans hx267_4; replace hx267_0 := (cell_far (p := ⟨gb266, 4, none⟩) (by first | (rw [add_block]; exact hn267_4) | (show (Addr.add _ _).block ≠ _; rw [add_block]; exact hn267_4) | exact hn267_4) (.int .i64 ((rd_T30 l0 x17_1).f4))).trans hx267_0; replace hx267_1 := (cell_far (p := ⟨gb266, 4, none⟩) (by first | (rw [add_block]; exact hn267_4) | (show (Addr.add _ _).block ≠ _; rw [add_block]; exact hn267_4) | exact hn267_4) (.int .i64 ((rd_T30 l0 x17_1).f4))).trans hx267_1; replace hx267_2 := (cell_far (p := ⟨gb266, 4, none⟩) (by first | (rw [add_block]; exact hn267_4) | (show (Addr.add _ _).block ≠ _; rw [add_block]; exact hn267_4) | exact hn267_4) (.int .i64 ((rd_T30 l0 x17_1).f4))).trans hx267_2; replace hx267_3 := (cell_far (p := ⟨gb266, 4, none⟩) (by first | (rw [add_block]; exact hn267_4) | (show (Addr.add _ _).block ≠ _; rw [add_block]; exact hn267_4) | exact hn267_4) (.int .i64 ((rd_T30 l0 x17_1).f4))).trans hx267_3; replace hx267_4 := (cell_far (p := ⟨gb266, 4, none⟩) (by first | (rw [add_block]; exact hn267_4) | (show (Addr.add _ _).block ≠ _; rw [add_block]; exact hn267_4) | exact hn267_4) (.int .i64 ((rd_T30 l0 x17_1).f4))).trans hx267_4; clear hn267_0; clear hn267_1; clear hn267_2; clear hn267_3; clear hn267_4; replace p267 := eq_true p267; replace q267 := eq_true q267) | (go_at_call 99; (with_reducible refine (rules_samePhase.calls k1 _ _ ((rd_T30 l0 x17_1).f0) ((rd_T30 l0 x17_1).f1) ((rd_T30 l0 x17_1).f2) ((rd_T30 l0 x17_1).f3) ((rd_T30 l0 x17_1).f4) _ _ ((rd_T30 l1 x17_1).f0) ((rd_T30 l1 x17_1).f1) ((rd_T30 l1 x17_1).f2) ((rd_T30 l1 x17_1).f3) ((rd_T30 l1 x17_1).f4) false _ ?side1 ?side2 ?side3 ?side4 A9.out).mono ?_); (case side1 => exact Kd.C_below HR265_0.out bX); (case side2 => exact HC265_0.out); (case side3 => exact Kd.C_below HR267_0.out bX); (case side4 => exact HC267_0.out); rintro e wz2 ⟨rfl, hb⟩; replace BK266 := bA (blk_below (g := gb266) (o := .cells #[.slice A265_0 ((rd_T30 l0 x17_1).f0).length c265_0, .int .i64 ((rd_T30 l0 x17_1).f1), .int .i64 ((rd_T30 l0 x17_1).f2), .int .i64 ((rd_T30 l0 x17_1).f3), .int .i64 ((rd_T30 l0 x17_1).f4)] 30 (0, 0)) (by (repeat ((with_reducible repeat (first | refine blk_drewN ?_ _ | refine blk_drew ?_ | refine blk_alloc ?_ _)); refine blk_far ?_ NB266_268.out _)); (with_reducible repeat (first | refine blk_drewN ?_ _ | refine blk_drew ?_ | refine blk_alloc ?_ _)); exact BK266.out) hb); replace BK268 := bA (blk_below (g := gb268) (o := .cells #[.slice A267_0 ((rd_T30 l1 x17_1).f0).length c267_0, .int .i64 ((rd_T30 l1 x17_1).f1), .int .i64 ((rd_T30 l1 x17_1).f2), .int .i64 ((rd_T30 l1 x17_1).f3), .int .i64 ((rd_T30 l1 x17_1).f4)] 30 (0, 0)) (by (with_reducible repeat (first | refine blk_drewN ?_ _ | refine blk_drew ?_ | refine blk_alloc ?_ _)); refine blk_put (cs := #[.slice A267_0 ((rd_T30 l1 x17_1).f0).length c267_0, .int .i64 ((rd_T30 l1 x17_1).f1), .int .i64 ((rd_T30 l1 x17_1).f2), .int .i64 ((rd_T30 l1 x17_1).f3), .int .i64 0]) ?_ 4 _ rfl; (with_reducible repeat (first | refine blk_drewN ?_ _ | refine blk_drew ?_ | refine blk_alloc ?_ _)); refine blk_put (cs := #[.slice A267_0 ((rd_T30 l1 x17_1).f0).length c267_0, .int .i64 ((rd_T30 l1 x17_1).f1), .int .i64 ((rd_T30 l1 x17_1).f2), .int .i64 0, .int .i64 0]) ?_ 3 _ rfl; (with_reducible repeat (first | refine blk_drewN ?_ _ | refine blk_drew ?_ | refine blk_alloc ?_ _)); refine blk_put (cs := #[.slice A267_0 ((rd_T30 l1 x17_1).f0).length c267_0, .int .i64 ((rd_T30 l1 x17_1).f1), .int .i64 0, .int .i64 0, .int .i64 0]) ?_ 2 _ rfl; (with_reducible repeat (first | refine blk_drewN ?_ _ | refine blk_drew ?_ | refine blk_alloc ?_ _)); refine blk_put (cs := #[.slice A267_0 ((rd_T30 l1 x17_1).f0).length c267_0, .int .i64 0, .int .i64 0, .int .i64 0, .int .i64 0]) ?_ 1 _ rfl; (with_reducible repeat (first | refine blk_drewN ?_ _ | refine blk_drew ?_ | refine blk_alloc ?_ _)); refine blk_put (cs := #[.slice none 0 0, .int .i64 0, .int .i64 0, .int .i64 0, .int .i64 0]) ?_ 0 _ rfl; (with_reducible repeat (first | refine blk_drewN ?_ _ | refine blk_drew ?_ | refine blk_alloc ?_ _)); exact BK268.out) hb); replace HB := bA (bS hb); (try clear hb)))
  ·go_roundg k1
   case measure => have := HK1.out; omega
   case rel => exact ⟨(wrap64 (x17_1 + 1)), bs, H', ⟨by have := HK1.out; omega⟩, ⟨bX⟩⟩
  ·go_ret
   exact bF
  go_ret
  exact bF
/-! ### rules_Same: function 54 -/
def rules_Same.f (k : Nat) (l0_0 : List (S30)) (a0_1 : Int) (a0_2 : Int) (a0_3 : Int) (a0_4 : Int) (a0_5 : Int) (a0_6 : Int) (a0_7 : Int) (a0_8 : Int) (l1_0 : List (S30)) (a1_1 : Int) (a1_2 : Int) (a1_3 : Int) (a1_4 : Int) (a1_5 : Int) (a1_6 : Int) (a1_7 : Int) (a1_8 : Int) : Option (Bool) := (slices_EqualFunc_Phase_F_rules_samePhase.f k l0_0 l1_0).bind fun t272 => (if t272 = true then (if a0_1 = a1_1 then (if a0_2 = a1_2 then (if a0_3 = a1_3 then (if a0_4 = a1_4 then (if a0_5 = a1_5 then (if a0_6 = a1_6 then (if a0_7 = a1_7 then (some (a0_8 == a1_8)) else (some false)) else (some false)) else (some false)) else (some false)) else (some false)) else (some false)) else (some false)) else (some false))
theorem rules_Same.mono : ∀ a0 a1 a2 a3 a4 a5 a6 a7 a8 a9 a10 a11 a12 a13 a14 a15 a16 a17 k, LeO (rules_Same.f k a0 a1 a2 a3 a4 a5 a6 a7 a8 a9 a10 a11 a12 a13 a14 a15 a16 a17) (rules_Same.f (k + 1) a0 a1 a2 a3 a4 a5 a6 a7 a8 a9 a10 a11 a12 a13 a14 a15 a16 a17) := by
 intro a0 a1 a2 a3 a4 a5 a6 a7 a8 a9 a10 a11 a12 a13 a14 a15 a16 a17 k
 unfold rules_Same.f
 have m0_ := @slices_EqualFunc_Phase_F_rules_samePhase.mono
 exact bMo
set_option maxHeartbeats 8000000 in
set_option maxRecDepth 100000 in
theorem rules_Same.calls (k : Nat) (A0_0 : Option Addr) (c0_0 : Nat) (l0_0 : List (S30)) (a0_1 : Int) (a0_2 : Int) (a0_3 : Int) (a0_4 : Int) (a0_5 : Int) (a0_6 : Int) (a0_7 : Int) (a0_8 : Int) (A1_0 : Option Addr) (c1_0 : Nat) (l1_0 : List (S30)) (a1_1 : Int) (a1_2 : Int) (a1_3 : Int) (a1_4 : Int) (a1_5 : Int) (a1_6 : Int) (a1_7 : Int) (a1_8 : Int) (r : Bool) (w : World) (hr0_0 : Kd.C k30 w A0_0 l0_0.length l0_0) (hc0_0 : l0_0.length ≤ c0_0) (hr1_0 : Kd.C k30 w A1_0 l1_0.length l1_0) (hc1_0 : l1_0.length ≤ c1_0) (h : rules_Same.f k l0_0 a0_1 a0_2 a0_3 a0_4 a0_5 a0_6 a0_7 a0_8 l1_0 a1_1 a1_2 a1_3 a1_4 a1_5 a1_6 a1_7 a1_8 = some r) :
  Calls Try.prog 54 #[.agg #[.slice A0_0 l0_0.length c0_0, .int .i64 a0_1, .int .i64 a0_2, .int .i64 a0_3, .int .i64 a0_4, .int .i64 a0_5, .int .i64 a0_6, .int .i64 a0_7, .int .i64 a0_8], .agg #[.slice A1_0 l1_0.length c1_0, .int .i64 a1_1, .int .i64 a1_2, .int .i64 a1_3, .int .i64 a1_4, .int .i64 a1_5, .int .i64 a1_6, .int .i64 a1_7, .int .i64 a1_8]] w fun e w' => e = .returned (.bool r) ∧ Below w.heap.size w w' := by
 have hu24 := Try.underlying24
 have HR0_0 := bA hr0_0
 have HC0_0 := bA hc0_0
 clear hr0_0 hc0_0
 have HR1_0 := bA hr1_0
 have HC1_0 := bA hc1_0
 clear hr1_0 hc1_0
 have HB := bA (Below.refl w.heap.size w)
 have H : ((slices_EqualFunc_Phase_F_rules_samePhase.f k l0_0 l1_0).bind fun t272 => (if t272 = true then (if a0_1 = a1_1 then (if a0_2 = a1_2 then (if a0_3 = a1_3 then (if a0_4 = a1_4 then (if a0_5 = a1_5 then (if a0_6 = a1_6 then (if a0_7 = a1_7 then (some (a0_8 == a1_8)) else (some false)) else (some false)) else (some false)) else (some false)) else (some false)) else (some false)) else (some false)) else (some false))) = some r := h
 clear h
 replace H := Option.bind_eq_some_iff.mp H
 obtain ⟨t272, A30, H⟩ := H
 have A3 := bA A30
 clear A30
 by_cases c4 : t272 = true
 subst c4
 rw [if_pos rfl] at H
 by_cases c5 : a0_1 = a1_1
 rw [if_pos c5] at H
 have c5b0 : (a0_1 == a1_1) = true := beq_iff_eq.mpr c5
 have c5b1 : (a0_1 != a1_1) = false := bne_eq_false_iff_eq.mpr c5
 clear c5
 by_cases c6 : a0_2 = a1_2
 rw [if_pos c6] at H
 have c6b0 : (a0_2 == a1_2) = true := beq_iff_eq.mpr c6
 have c6b1 : (a0_2 != a1_2) = false := bne_eq_false_iff_eq.mpr c6
 clear c6
 by_cases c7 : a0_3 = a1_3
 rw [if_pos c7] at H
 have c7b0 : (a0_3 == a1_3) = true := beq_iff_eq.mpr c7
 have c7b1 : (a0_3 != a1_3) = false := bne_eq_false_iff_eq.mpr c7
 clear c7
 by_cases c8 : a0_4 = a1_4
 rw [if_pos c8] at H
 have c8b0 : (a0_4 == a1_4) = true := beq_iff_eq.mpr c8
 have c8b1 : (a0_4 != a1_4) = false := bne_eq_false_iff_eq.mpr c8
 clear c8
 by_cases c9 : a0_5 = a1_5
 rw [if_pos c9] at H
 have c9b0 : (a0_5 == a1_5) = true := beq_iff_eq.mpr c9
 have c9b1 : (a0_5 != a1_5) = false := bne_eq_false_iff_eq.mpr c9
 clear c9
 by_cases c10 : a0_6 = a1_6
 rw [if_pos c10] at H
 have c10b0 : (a0_6 == a1_6) = true := beq_iff_eq.mpr c10
 have c10b1 : (a0_6 != a1_6) = false := bne_eq_false_iff_eq.mpr c10
 clear c10
 by_cases c11 : a0_7 = a1_7
 rw [if_pos c11] at H
 have c11b0 : (a0_7 == a1_7) = true := beq_iff_eq.mpr c11
 have c11b1 : (a0_7 != a1_7) = false := bne_eq_false_iff_eq.mpr c11
 clear c11
 obtain rfl := Option.some.inj H
 rotate_left
 rw [if_neg c11] at H
 have c11b0 : (a0_7 == a1_7) = false := beq_eq_false_iff_ne.mpr c11
 have c11b1 : (a0_7 != a1_7) = true := bne_iff_ne.mpr c11
 obtain rfl := Option.some.inj H
 rotate_left
 rw [if_neg c10] at H
 have c10b0 : (a0_6 == a1_6) = false := beq_eq_false_iff_ne.mpr c10
 have c10b1 : (a0_6 != a1_6) = true := bne_iff_ne.mpr c10
 obtain rfl := Option.some.inj H
 rotate_left
 rw [if_neg c9] at H
 have c9b0 : (a0_5 == a1_5) = false := beq_eq_false_iff_ne.mpr c9
 have c9b1 : (a0_5 != a1_5) = true := bne_iff_ne.mpr c9
 obtain rfl := Option.some.inj H
 rotate_left
 rw [if_neg c8] at H
 have c8b0 : (a0_4 == a1_4) = false := beq_eq_false_iff_ne.mpr c8
 have c8b1 : (a0_4 != a1_4) = true := bne_iff_ne.mpr c8
 obtain rfl := Option.some.inj H
 rotate_left
 rw [if_neg c7] at H
 have c7b0 : (a0_3 == a1_3) = false := beq_eq_false_iff_ne.mpr c7
 have c7b1 : (a0_3 != a1_3) = true := bne_iff_ne.mpr c7
 obtain rfl := Option.some.inj H
 rotate_left
 rw [if_neg c6] at H
 have c6b0 : (a0_2 == a1_2) = false := beq_eq_false_iff_ne.mpr c6
 have c6b1 : (a0_2 != a1_2) = true := bne_iff_ne.mpr c6
 obtain rfl := Option.some.inj H
 rotate_left
 rw [if_neg c5] at H
 have c5b0 : (a0_1 == a1_1) = false := beq_eq_false_iff_ne.mpr c5
 have c5b1 : (a0_1 != a1_1) = true := bne_iff_ne.mpr c5
 obtain rfl := Option.some.inj H
 rotate_left
 replace c4 := Bool.eq_false_iff.mpr c4
 subst c4
 rw [if_neg bn] at H
 obtain rfl := Option.some.inj H
 rotate_left
 all_goals go_enter Try.func54, Try.ntmps54
 all_goals go_wp2_with (first | ((with_reducible refine gate_dst (N := 2) rfl ?_); refine bE (N := 2) (cs := #[.slice A0_0 l0_0.length c0_0, .int .i64 a0_1, .int .i64 a0_2, .int .i64 a0_3, .int .i64 a0_4, .int .i64 a0_5, .int .i64 a0_6, .int .i64 a0_7, .int .i64 a0_8]) (t := 24) ?_; intro gb270 hg wz0 hbox hb; have BK270 := bA (hbox); have GW270 := bA (bZ hg); have GE270 := bA (bZ hg); replace HB := bA (bS hb); clear hb hbox hg) | ((with_reducible refine gate_dst (N := 3) rfl ?_); refine bE (N := 3) (cs := #[.slice A1_0 l1_0.length c1_0, .int .i64 a1_1, .int .i64 a1_2, .int .i64 a1_3, .int .i64 a1_4, .int .i64 a1_5, .int .i64 a1_6, .int .i64 a1_7, .int .i64 a1_8]) (t := 24) ?_; intro gb271 hg wz1 hbox hb; have BK271 := bA (hbox); have GW271 := bA (bZ hg); have GE271 := bA (bZ hg); have NB270_271 := bA (bL BK270 hg); have NB271_270 := bA (bG BK270 hg); replace BK270 := bA (bB BK270 hb); replace HB := bA (bS hb); clear hb hbox hg; have hz1 := NB270_271.out; have hz2 := NB271_270.out; obtain ⟨hz3, hz4, hz5, hz6, hz7, hz8, hz9, hz10, hz11, hz12, hz13, hz14, hz15, hz16, hz17, hz18, hz19, hz20⟩ := bc9 BK270; obtain ⟨hz21, hz22, hz23, hz24, hz25, hz26, hz27, hz28, hz29, hz30, hz31, hz32, hz33, hz34, hz35, hz36, hz37, hz38⟩ := bc9 BK271) | ((first | ((with_reducible refine gate_callee (f := 98) rfl ?_); refine bC (some 9) Try.func98 #[.slice A0_0 l0_0.length c0_0, .slice A1_0 l1_0.length c1_0, .func (.func 99) #[] #[]] ?_) | go_at_call 98); (with_reducible refine (slices_EqualFunc_Phase_F_rules_samePhase.calls k _ _ l0_0 _ _ l1_0  true _ ?side1 ?side2 ?side3 ?side4 A3.out).mono ?_); (case side1 => exact bQ HR0_0); (case side2 => exact HC0_0.out); (case side3 => exact bQ HR1_0); (case side4 => exact HC1_0.out); rintro e wz2 ⟨rfl, hb⟩; (first | refine ⟨_, rfl, ?_⟩ | skip); replace BK270 := bA (bB BK270 hb); replace BK271 := bA (bB BK271 hb); replace HB := bA (bS hb); (try clear hb); obtain ⟨hz39, hz40, hz41, hz42, hz43, hz44, hz45, hz46, hz47, hz12, hz13, hz14, hz15, hz16, hz17, hz18, hz19, hz20⟩ := bc9 BK270; obtain ⟨hz48, hz49, hz50, hz51, hz52, hz53, hz54, hz55, hz56, hz30, hz31, hz32, hz33, hz34, hz35, hz36, hz37, hz38⟩ := bc9 BK271) | ((first | ((with_reducible refine gate_callee (f := 98) rfl ?_); refine bC (some 9) Try.func98 #[.slice A0_0 l0_0.length c0_0, .slice A1_0 l1_0.length c1_0, .func (.func 99) #[] #[]] ?_) | go_at_call 98); (with_reducible refine (slices_EqualFunc_Phase_F_rules_samePhase.calls k _ _ l0_0 _ _ l1_0  false _ ?side1 ?side2 ?side3 ?side4 A3.out).mono ?_); (case side1 => exact bQ HR0_0); (case side2 => exact HC0_0.out); (case side3 => exact bQ HR1_0); (case side4 => exact HC1_0.out); rintro e wz2 ⟨rfl, hb⟩; (first | refine ⟨_, rfl, ?_⟩ | skip); replace BK270 := bA (bB BK270 hb); replace BK271 := bA (bB BK271 hb); replace HB := bA (bS hb); (try clear hb)))
 all_goals (go_ret; exact bF)
/-! ### rules_Window: function 20 -/
def rules_Window.f (k : Nat) (l0_0 : List (S30)) (a0_1 : Int) (a0_2 : Int) (a0_3 : Int) (a0_4 : Int) (a0_5 : Int) (a0_6 : Int) (a0_7 : Int) (a0_8 : Int) : Option (Int) := (rules_Right.f k l0_0 a0_1 a0_2 a0_3 a0_4 a0_5 a0_6 a0_7 a0_8).bind fun t274 => (if t274 = true then (some (wrap64 ((wrap64 (a0_1 + a0_2)) + 2))) else (some 0))
theorem rules_Window.mono : ∀ a0 a1 a2 a3 a4 a5 a6 a7 a8 k, LeO (rules_Window.f k a0 a1 a2 a3 a4 a5 a6 a7 a8) (rules_Window.f (k + 1) a0 a1 a2 a3 a4 a5 a6 a7 a8) := by
 intro a0 a1 a2 a3 a4 a5 a6 a7 a8 k
 unfold rules_Window.f
 have m0_ := @rules_Right.mono
 exact bMo
set_option maxHeartbeats 8000000 in
set_option maxRecDepth 100000 in
theorem rules_Window.calls (k : Nat) (A0_0 : Option Addr) (c0_0 : Nat) (l0_0 : List (S30)) (a0_1 : Int) (a0_2 : Int) (a0_3 : Int) (a0_4 : Int) (a0_5 : Int) (a0_6 : Int) (a0_7 : Int) (a0_8 : Int) (r : Int) (w : World) (hr0_0 : Kd.C k30 w A0_0 l0_0.length l0_0) (hc0_0 : l0_0.length ≤ c0_0) (h : rules_Window.f k l0_0 a0_1 a0_2 a0_3 a0_4 a0_5 a0_6 a0_7 a0_8 = some r) :
  Calls Try.prog 20 #[.agg #[.slice A0_0 l0_0.length c0_0, .int .i64 a0_1, .int .i64 a0_2, .int .i64 a0_3, .int .i64 a0_4, .int .i64 a0_5, .int .i64 a0_6, .int .i64 a0_7, .int .i64 a0_8]] w fun e w' => e = .returned (.int .i64 r) ∧ Below w.heap.size w w' := by
 have hu24 := Try.underlying24
 have HR0_0 := bA hr0_0
 have HC0_0 := bA hc0_0
 clear hr0_0 hc0_0
 have HB := bA (Below.refl w.heap.size w)
 have H : ((rules_Right.f k l0_0 a0_1 a0_2 a0_3 a0_4 a0_5 a0_6 a0_7 a0_8).bind fun t274 => (if t274 = true then (some (wrap64 ((wrap64 (a0_1 + a0_2)) + 2))) else (some 0))) = some r := h
 clear h
 replace H := Option.bind_eq_some_iff.mp H
 obtain ⟨t274, A20, H⟩ := H
 have A2 := bA A20
 clear A20
 by_cases c3 : t274 = true
 subst c3
 rw [if_pos rfl] at H
 obtain rfl := Option.some.inj H
 rotate_left
 replace c3 := Bool.eq_false_iff.mpr c3
 subst c3
 rw [if_neg bn] at H
 obtain rfl := Option.some.inj H
 rotate_left
 all_goals go_enter Try.func20, Try.ntmps20
 all_goals go_wp2_with (first | ((with_reducible refine gate_dst (N := 1) rfl ?_); refine bE (N := 1) (cs := #[.slice A0_0 l0_0.length c0_0, .int .i64 a0_1, .int .i64 a0_2, .int .i64 a0_3, .int .i64 a0_4, .int .i64 a0_5, .int .i64 a0_6, .int .i64 a0_7, .int .i64 a0_8]) (t := 24) ?_; intro gb273 hg wz0 hbox hb; have BK273 := bA (hbox); have GW273 := bA (bZ hg); have GE273 := bA (bZ hg); replace HB := bA (bS hb); clear hb hbox hg; obtain ⟨hz1, hz2, hz3, hz4, hz5, hz6, hz7, hz8, hz9, hz10, hz11, hz12, hz13, hz14, hz15, hz16, hz17, hz18⟩ := bc9 BK273) | ((first | ((with_reducible refine gate_callee (f := 19) rfl ?_); refine bC (some 4) Try.func19 #[.agg #[.slice A0_0 l0_0.length c0_0, .int .i64 a0_1, .int .i64 a0_2, .int .i64 a0_3, .int .i64 a0_4, .int .i64 a0_5, .int .i64 a0_6, .int .i64 a0_7, .int .i64 a0_8]] ?_) | go_at_call 19); (with_reducible refine (rules_Right.calls k _ _ l0_0 a0_1 a0_2 a0_3 a0_4 a0_5 a0_6 a0_7 a0_8 true _ ?side1 ?side2 A2.out).mono ?_); (case side1 => exact bQ HR0_0); (case side2 => exact HC0_0.out); rintro e wz1 ⟨rfl, hb⟩; (first | refine ⟨_, rfl, ?_⟩ | skip); replace BK273 := bA (bB BK273 hb); replace HB := bA (bS hb); (try clear hb); obtain ⟨hz19, hz20, hz21, hz22, hz23, hz24, hz25, hz26, hz27, hz10, hz11, hz12, hz13, hz14, hz15, hz16, hz17, hz18⟩ := bc9 BK273) | ((first | ((with_reducible refine gate_callee (f := 19) rfl ?_); refine bC (some 4) Try.func19 #[.agg #[.slice A0_0 l0_0.length c0_0, .int .i64 a0_1, .int .i64 a0_2, .int .i64 a0_3, .int .i64 a0_4, .int .i64 a0_5, .int .i64 a0_6, .int .i64 a0_7, .int .i64 a0_8]] ?_) | go_at_call 19); (with_reducible refine (rules_Right.calls k _ _ l0_0 a0_1 a0_2 a0_3 a0_4 a0_5 a0_6 a0_7 a0_8 false _ ?side1 ?side2 A2.out).mono ?_); (case side1 => exact bQ HR0_0); (case side2 => exact HC0_0.out); rintro e wz1 ⟨rfl, hb⟩; (first | refine ⟨_, rfl, ?_⟩ | skip); replace BK273 := bA (bB BK273 hb); replace HB := bA (bS hb); (try clear hb)))
 all_goals (go_ret; exact bF)
end Go.Proofs.Ytjmibjmlihmglaa.G
