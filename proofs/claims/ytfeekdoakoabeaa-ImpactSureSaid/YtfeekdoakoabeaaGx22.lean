-- Written by a program of this session out of the translation; Lean checks it.
import Derived.Test.YtfeekdoakoabeaaGx0
import Derived.Test.YtfeekdoakoabeaaGx21
namespace Go.Proofs.Ytfeekdoakoabeaa.G
open Go.RowKit Go.Proofs.YtfeekdoakoabeaaW.PrintWords Go.Proofs.YtfeekdoakoabeaaW.PrintLast Go.Proofs.YtfeekdoakoabeaaW.PrintMore
attribute [local go_sem] max2_int min2_int max_two min_two max_three min_three max_four min_four   -- for this text's walks alone
set_option linter.unusedVariables false
set_option linter.unusedSimpArgs false

/-! ### apogeeref11_Right: function 33 -/
mutual
def apogeeref11_Right.l0 : Nat → List (S28) → Int → Option (Bool)
 | 0, _, _ => none
 | k + 1, x0, x3 => if x3 < (x0.length : Int) then (apogeeref11_Right.j1 k x0 x3 (decide ((x0.length : Int) ≤ 8))) else (apogeeref11_Right.j1 k x0 x3 false)
def apogeeref11_Right.j1 : Nat → List (S28) → Int → Bool → Option (Bool)
 | 0, _, _, _ => none
 | k + 1, x0, x3, x12 => if x12 = true then (if 0 ≤ x3 then (if x3 < (x0.length : Int) then (if ((rd_T28 x0 x3).f0) < (-1073741824) then (some false) else (if ((rd_T28 x0 x3).f0) > 1073741824 then (some false) else (if ((rd_T28 x0 x3).f1) < (-1073741824) then (some false) else (if ((rd_T28 x0 x3).f1) > 1073741824 then (some false) else (apogeeref11_Right.l0 k x0 (wrap64 (x3 + 1))))))) else (none)) else (none)) else ((apogeeref11_Simple.f k x0).bind fun t501 => (some t501))
end
def apogeeref11_Right.f (k : Nat) (l0 : List (S28)) : Option (Bool) := apogeeref11_Right.l0 k l0 0
theorem apogeeref11_Right.mono_l : ∀ k, (∀ y0 y1, LeO (apogeeref11_Right.l0 k y0 y1) (apogeeref11_Right.l0 (k + 1) y0 y1)) ∧ (∀ y0 y1 y2, LeO (apogeeref11_Right.j1 k y0 y1 y2) (apogeeref11_Right.j1 (k + 1) y0 y1 y2))
 | 0 => ⟨fun _ _ r h => by simp [apogeeref11_Right.l0] at h, fun _ _ _ r h => by simp [apogeeref11_Right.j1] at h⟩
 | k + 1 => by
  obtain ⟨ih0, ih1⟩ := apogeeref11_Right.mono_l k
  refine ⟨?_, ?_⟩
  ·intro y0 y1
   unfold apogeeref11_Right.l0
   have m0_ := @apogeeref11_Simple.mono
   exact bMo
  ·intro y0 y1 y2
   unfold apogeeref11_Right.j1
   have m0_ := @apogeeref11_Simple.mono
   exact bMo
theorem apogeeref11_Right.mono : ∀ a0 k, LeO (apogeeref11_Right.f k a0) (apogeeref11_Right.f (k + 1) a0) := by
 intro a0 k
 obtain ⟨ih0, ih1⟩ := apogeeref11_Right.mono_l k
 unfold apogeeref11_Right.f
 have m0_ := @apogeeref11_Simple.mono
 exact bMo
set_option maxHeartbeats 8000000 in
set_option maxRecDepth 100000 in
theorem apogeeref11_Right.calls (k : Nat) (A0 : Option Addr) (c0 : Nat) (l0 : List (S28)) (r : Bool) (w : World) (hr0 : Kd.C k28 w A0 l0.length l0) (hc0 : l0.length ≤ c0) (h : apogeeref11_Right.f k l0 = some r) :
  Calls Try.prog 33 #[.slice A0 l0.length c0] w fun e w' => e = .returned (.bool r) ∧ Below w.heap.size w w' := by
 have HR0 := bA hr0
 have HC0 := bA hc0
 clear hr0 hc0
 have HB := bA (Below.refl w.heap.size w)
 have H : (apogeeref11_Right.l0 k l0 0) = some r := h
 clear h
 have H' := bA H
 clear H
 go_enter Try.func33, Try.ntmps33
 go_wp2
 go_loopg [3] k (fun kq v3 w' => ∃ (x3_1 : Int), v3 = .int .i64 x3_1 ∧ Aside0 (apogeeref11_Right.l0 kq l0 x3_1 = some r) ∧ Aside0 (kq ≤ k) ∧ Aside0 (Below w.heap.size w w'))
 case atStart => exact ⟨(0), bs, H', ⟨Nat.le_refl _⟩, ⟨bX⟩⟩
 clear H'
 obtain ⟨x3_1, rfl, HA, HK1, HB⟩ := hrel
 cases gk with
 | zero => exact absurd HA.out (by simp [apogeeref11_Right.l0])
 | succ k1 =>
  have H := HA.out
  clear HA
  simp only [apogeeref11_Right.l0] at H
  have HC2 := bA H
  clear H
  go_upto_region 2 with (fail)
  go_cut [12] (fun v12 wc => ∃ (kq : Nat) (x12_1 : Bool), v12 = .bool x12_1 ∧ Aside0 (apogeeref11_Right.j1 kq l0 x3_1 x12_1 = some r) ∧ Aside0 (kq ≤ k1) ∧ Aside0 (Below w.heap.size w wc))
  case first =>
   have H := HC2.out
   clear HC2
   by_cases c3 : x3_1 < (l0.length : Int)
   rw [if_pos c3] at H
   have c3b0 : decide (x3_1 < (l0.length : Int)) = true := decide_eq_true c3
   clear c3
   (first | rw [c3b0] | (simp only [i64_w, i32_w]; rw [c3b0]) | skip)
   have H' := bA H
   clear H
   rotate_left
   rw [if_neg c3] at H
   have c3b0 : decide (x3_1 < (l0.length : Int)) = false := decide_eq_false c3
   clear c3
   (first | rw [c3b0] | (simp only [i64_w, i32_w]; rw [c3b0]) | skip)
   have H' := bA H
   clear H
   rotate_left
   all_goals go_wp2
   ·go_meet
    case rel => exact ⟨_, (decide ((l0.length : Int) ≤ 8)), bs, H', ⟨by have := HK1.out; first | omega | exact Nat.le_refl _⟩, ⟨bX⟩⟩
   go_meet
   case rel => exact ⟨_, (false), bs, H', ⟨by have := HK1.out; first | omega | exact Nat.le_refl _⟩, ⟨bX⟩⟩
  clear HC2
  try clear p2
  try clear c3
  try clear c3b0
  obtain ⟨kq, x12_1, rfl, HA, HJ1, HB⟩ := hcut
  cases kq with
  | zero => exact absurd HA.out (by simp [apogeeref11_Right.j1])
  | succ kj1 =>
   have H := HA.out
   clear HA
   simp only [apogeeref11_Right.j1] at H
   by_cases c4 : x12_1 = true
   subst c4
   rw [if_pos rfl] at H
   by_cases c5 : 0 ≤ x3_1
   rw [if_pos c5] at H
   have c5b0 : decide (0 ≤ x3_1) = true := decide_eq_true c5
   clear c5
   by_cases c6 : x3_1 < (l0.length : Int)
   rw [if_pos c6] at H
   have c6b0 : decide (x3_1 < (l0.length : Int)) = true := decide_eq_true c6
   clear c6
   by_cases c7 : ((rd_T28 l0 x3_1).f0) < (-1073741824)
   rw [if_pos c7] at H
   have c7b0 : decide (((rd_T28 l0 x3_1).f0) < (-1073741824)) = true := decide_eq_true c7
   clear c7
   obtain rfl := Option.some.inj H
   have p497 : 0 ≤ (x3_1 : Int) := bo
   have q497 : x3_1 < (l0.length : Int) := bo
   obtain ⟨ad497, e497, hx497_0, hx497_1⟩ := at_T28 HR0.out x3_1 p497 q497
   cases e497
   replace hx497_0 := bK hx497_0
   replace hx497_1 := bK hx497_1
   replace p497 := eq_true p497
   replace q497 := eq_true q497
   rotate_left
   rw [if_neg c7] at H
   have c7b0 : decide (((rd_T28 l0 x3_1).f0) < (-1073741824)) = false := decide_eq_false c7
   clear c7
   by_cases c8 : ((rd_T28 l0 x3_1).f0) > 1073741824
   rw [if_pos c8] at H
   have c8b0 : decide (1073741824 < ((rd_T28 l0 x3_1).f0)) = true := decide_eq_true c8
   clear c8
   obtain rfl := Option.some.inj H
   have p497 : 0 ≤ (x3_1 : Int) := bo
   have q497 : x3_1 < (l0.length : Int) := bo
   obtain ⟨ad497, e497, hx497_0, hx497_1⟩ := at_T28 HR0.out x3_1 p497 q497
   cases e497
   replace hx497_0 := bK hx497_0
   replace hx497_1 := bK hx497_1
   replace p497 := eq_true p497
   replace q497 := eq_true q497
   have p498 : 0 ≤ (x3_1 : Int) := bo
   have q498 : x3_1 < (l0.length : Int) := bo
   obtain ⟨ad498, e498, hx498_0, hx498_1⟩ := at_T28 HR0.out x3_1 p498 q498
   obtain rfl : ad497 = ad498 := (by injection e498)
   replace hx498_0 := bK hx498_0
   replace hx498_1 := bK hx498_1
   replace p498 := eq_true p498
   replace q498 := eq_true q498
   rotate_left
   rw [if_neg c8] at H
   have c8b0 : decide (1073741824 < ((rd_T28 l0 x3_1).f0)) = false := decide_eq_false c8
   clear c8
   by_cases c9 : ((rd_T28 l0 x3_1).f1) < (-1073741824)
   rw [if_pos c9] at H
   have c9b0 : decide (((rd_T28 l0 x3_1).f1) < (-1073741824)) = true := decide_eq_true c9
   clear c9
   obtain rfl := Option.some.inj H
   have p497 : 0 ≤ (x3_1 : Int) := bo
   have q497 : x3_1 < (l0.length : Int) := bo
   obtain ⟨ad497, e497, hx497_0, hx497_1⟩ := at_T28 HR0.out x3_1 p497 q497
   cases e497
   replace hx497_0 := bK hx497_0
   replace hx497_1 := bK hx497_1
   replace p497 := eq_true p497
   replace q497 := eq_true q497
   have p498 : 0 ≤ (x3_1 : Int) := bo
   have q498 : x3_1 < (l0.length : Int) := bo
   obtain ⟨ad498, e498, hx498_0, hx498_1⟩ := at_T28 HR0.out x3_1 p498 q498
   obtain rfl : ad497 = ad498 := (by injection e498)
   replace hx498_0 := bK hx498_0
   replace hx498_1 := bK hx498_1
   replace p498 := eq_true p498
   replace q498 := eq_true q498
   have p499 : 0 ≤ (x3_1 : Int) := bo
   have q499 : x3_1 < (l0.length : Int) := bo
   obtain ⟨ad499, e499, hx499_0, hx499_1⟩ := at_T28 HR0.out x3_1 p499 q499
   obtain rfl : ad497 = ad499 := (by injection e499)
   replace hx499_0 := bK hx499_0
   replace hx499_1 := bK hx499_1
   replace p499 := eq_true p499
   replace q499 := eq_true q499
   rotate_left
   rw [if_neg c9] at H
   have c9b0 : decide (((rd_T28 l0 x3_1).f1) < (-1073741824)) = false := decide_eq_false c9
   clear c9
   by_cases c10 : ((rd_T28 l0 x3_1).f1) > 1073741824
   rw [if_pos c10] at H
   have c10b0 : decide (1073741824 < ((rd_T28 l0 x3_1).f1)) = true := decide_eq_true c10
   clear c10
   obtain rfl := Option.some.inj H
   have p497 : 0 ≤ (x3_1 : Int) := bo
   have q497 : x3_1 < (l0.length : Int) := bo
   obtain ⟨ad497, e497, hx497_0, hx497_1⟩ := at_T28 HR0.out x3_1 p497 q497
   cases e497
   replace hx497_0 := bK hx497_0
   replace hx497_1 := bK hx497_1
   replace p497 := eq_true p497
   replace q497 := eq_true q497
   have p498 : 0 ≤ (x3_1 : Int) := bo
   have q498 : x3_1 < (l0.length : Int) := bo
   obtain ⟨ad498, e498, hx498_0, hx498_1⟩ := at_T28 HR0.out x3_1 p498 q498
   obtain rfl : ad497 = ad498 := (by injection e498)
   replace hx498_0 := bK hx498_0
   replace hx498_1 := bK hx498_1
   replace p498 := eq_true p498
   replace q498 := eq_true q498
   have p499 : 0 ≤ (x3_1 : Int) := bo
   have q499 : x3_1 < (l0.length : Int) := bo
   obtain ⟨ad499, e499, hx499_0, hx499_1⟩ := at_T28 HR0.out x3_1 p499 q499
   obtain rfl : ad497 = ad499 := (by injection e499)
   replace hx499_0 := bK hx499_0
   replace hx499_1 := bK hx499_1
   replace p499 := eq_true p499
   replace q499 := eq_true q499
   have p500 : 0 ≤ (x3_1 : Int) := bo
   have q500 : x3_1 < (l0.length : Int) := bo
   obtain ⟨ad500, e500, hx500_0, hx500_1⟩ := at_T28 HR0.out x3_1 p500 q500
   obtain rfl : ad497 = ad500 := (by injection e500)
   replace hx500_0 := bK hx500_0
   replace hx500_1 := bK hx500_1
   replace p500 := eq_true p500
   replace q500 := eq_true q500
   rotate_left
   rw [if_neg c10] at H
   have c10b0 : decide (1073741824 < ((rd_T28 l0 x3_1).f1)) = false := decide_eq_false c10
   clear c10
   have H' := bA H
   clear H
   have p497 : 0 ≤ (x3_1 : Int) := bo
   have q497 : x3_1 < (l0.length : Int) := bo
   obtain ⟨ad497, e497, hx497_0, hx497_1⟩ := at_T28 HR0.out x3_1 p497 q497
   cases e497
   replace hx497_0 := bK hx497_0
   replace hx497_1 := bK hx497_1
   replace p497 := eq_true p497
   replace q497 := eq_true q497
   have p498 : 0 ≤ (x3_1 : Int) := bo
   have q498 : x3_1 < (l0.length : Int) := bo
   obtain ⟨ad498, e498, hx498_0, hx498_1⟩ := at_T28 HR0.out x3_1 p498 q498
   obtain rfl : ad497 = ad498 := (by injection e498)
   replace hx498_0 := bK hx498_0
   replace hx498_1 := bK hx498_1
   replace p498 := eq_true p498
   replace q498 := eq_true q498
   have p499 : 0 ≤ (x3_1 : Int) := bo
   have q499 : x3_1 < (l0.length : Int) := bo
   obtain ⟨ad499, e499, hx499_0, hx499_1⟩ := at_T28 HR0.out x3_1 p499 q499
   obtain rfl : ad497 = ad499 := (by injection e499)
   replace hx499_0 := bK hx499_0
   replace hx499_1 := bK hx499_1
   replace p499 := eq_true p499
   replace q499 := eq_true q499
   have p500 : 0 ≤ (x3_1 : Int) := bo
   have q500 : x3_1 < (l0.length : Int) := bo
   obtain ⟨ad500, e500, hx500_0, hx500_1⟩ := at_T28 HR0.out x3_1 p500 q500
   obtain rfl : ad497 = ad500 := (by injection e500)
   replace hx500_0 := bK hx500_0
   replace hx500_1 := bK hx500_1
   replace p500 := eq_true p500
   replace q500 := eq_true q500
   rotate_left
   rw [if_neg c6] at H
   exact absurd H (by simp)
   rw [if_neg c5] at H
   exact absurd H (by simp)
   replace c4 := Bool.eq_false_iff.mpr c4
   subst c4
   rw [if_neg bn] at H
   replace H := Option.bind_eq_some_iff.mp H
   obtain ⟨t501, A110, H⟩ := H
   have A11 := bA A110
   clear A110
   obtain rfl := Option.some.inj H
   rotate_left
   all_goals go_wp2_with (first | ((first | ((with_reducible refine gate_callee (f := 50) rfl ?_); refine bC (some 46) Try.func50 #[.slice A0 l0.length c0] ?_) | go_at_call 50); (with_reducible refine (apogeeref11_Simple.calls kj1 _ _ l0 t501 _ ?side1 ?side2 A11.out).mono ?_); (case side1 => exact bQ HR0); (case side2 => exact HC0.out); rintro e wz0 ⟨rfl, hb⟩; (first | refine ⟨_, rfl, ?_⟩ | skip); replace HB := bA (bS hb); (try clear hb)))
   ·go_ret
    exact bF
   ·go_ret
    exact bF
   ·go_ret
    exact bF
   ·go_ret
    exact bF
   ·go_roundg kj1
    case measure => have := HK1.out; have := HJ1.out; omega
    case rel => exact ⟨(wrap64 (x3_1 + 1)), bs, H', ⟨by have := HK1.out; have := HJ1.out; omega⟩, ⟨bX⟩⟩
   go_ret
   exact bF
/-! ### apogeeref13_within: function 34 -/
def apogeeref13_within.f (a0 : Int) (a1 : Int) (a2 : Int) : Option (Bool) := if a0 ≥ a1 then (some (decide (a0 ≤ a2))) else (some false)
set_option maxHeartbeats 8000000 in
set_option maxRecDepth 100000 in
theorem apogeeref13_within.calls (a0 : Int) (a1 : Int) (a2 : Int) (r : Bool) (w : World) (h : apogeeref13_within.f a0 a1 a2 = some r) :
  Calls Try.prog 34 #[.int .i64 a0, .int .i64 a1, .int .i64 a2] w fun e w' => e = .returned (.bool r) ∧ Drawn0 w w' := by
 have H : (if a0 ≥ a1 then (some (decide (a0 ≤ a2))) else (some false)) = some r := h
 clear h
 by_cases c4 : a0 ≥ a1
 rw [if_pos c4] at H
 have c4b0 : decide (a1 ≤ a0) = true := decide_eq_true c4
 clear c4
 obtain rfl := Option.some.inj H
 rotate_left
 rw [if_neg c4] at H
 have c4b0 : decide (a1 ≤ a0) = false := decide_eq_false c4
 clear c4
 obtain rfl := Option.some.inj H
 rotate_left
 all_goals go_enter Try.func34, Try.ntmps34
 all_goals go_wp2
 all_goals (go_ret; exact bD)
/-! ### apogeeref13_RightPhase: function 15 -/
def apogeeref13_RightPhase.f (k : Nat) (l0_0 : List (S28)) (a0_1 : Int) (a0_2 : Int) (a0_3 : Int) (a0_4 : Int) : Option (Bool) := (apogeeref11_Right.f k l0_0).bind fun t503 => (if t503 = true then ((apogeeref13_within.f a0_1 1 100).bind fun t504 => (if t504 = true then ((apogeeref13_within.f a0_2 1 65536).bind fun t505 => (if t505 = true then ((apogeeref13_within.f a0_3 1 1000000).bind fun t506 => (if t506 = true then ((apogeeref13_within.f a0_4 0 1073741824).bind fun t507 => (some t507)) else (some false))) else (some false))) else (some false))) else (some false))
theorem apogeeref13_RightPhase.mono : ∀ a0 a1 a2 a3 a4 k, LeO (apogeeref13_RightPhase.f k a0 a1 a2 a3 a4) (apogeeref13_RightPhase.f (k + 1) a0 a1 a2 a3 a4) := by
 intro a0 a1 a2 a3 a4 k
 unfold apogeeref13_RightPhase.f
 have m0_ := @apogeeref11_Right.mono
 exact bMo
set_option maxHeartbeats 8000000 in
set_option maxRecDepth 100000 in
theorem apogeeref13_RightPhase.calls (k : Nat) (A0_0 : Option Addr) (c0_0 : Nat) (l0_0 : List (S28)) (a0_1 : Int) (a0_2 : Int) (a0_3 : Int) (a0_4 : Int) (r : Bool) (w : World) (hr0_0 : Kd.C k28 w A0_0 l0_0.length l0_0) (hc0_0 : l0_0.length ≤ c0_0) (h : apogeeref13_RightPhase.f k l0_0 a0_1 a0_2 a0_3 a0_4 = some r) :
  Calls Try.prog 15 #[.agg #[.slice A0_0 l0_0.length c0_0, .int .i64 a0_1, .int .i64 a0_2, .int .i64 a0_3, .int .i64 a0_4]] w fun e w' => e = .returned (.bool r) ∧ Below w.heap.size w w' := by
 have hu42 := Try.underlying42
 have HR0_0 := bA hr0_0
 have HC0_0 := bA hc0_0
 clear hr0_0 hc0_0
 have HB := bA (Below.refl w.heap.size w)
 have H : ((apogeeref11_Right.f k l0_0).bind fun t503 => (if t503 = true then ((apogeeref13_within.f a0_1 1 100).bind fun t504 => (if t504 = true then ((apogeeref13_within.f a0_2 1 65536).bind fun t505 => (if t505 = true then ((apogeeref13_within.f a0_3 1 1000000).bind fun t506 => (if t506 = true then ((apogeeref13_within.f a0_4 0 1073741824).bind fun t507 => (some t507)) else (some false))) else (some false))) else (some false))) else (some false))) = some r := h
 clear h
 replace H := Option.bind_eq_some_iff.mp H
 obtain ⟨t503, A20, H⟩ := H
 have A2 := bA A20
 clear A20
 by_cases c3 : t503 = true
 subst c3
 rw [if_pos rfl] at H
 replace H := Option.bind_eq_some_iff.mp H
 obtain ⟨t504, A40, H⟩ := H
 have A4 := bA A40
 clear A40
 by_cases c5 : t504 = true
 subst c5
 rw [if_pos rfl] at H
 replace H := Option.bind_eq_some_iff.mp H
 obtain ⟨t505, A60, H⟩ := H
 have A6 := bA A60
 clear A60
 by_cases c7 : t505 = true
 subst c7
 rw [if_pos rfl] at H
 replace H := Option.bind_eq_some_iff.mp H
 obtain ⟨t506, A80, H⟩ := H
 have A8 := bA A80
 clear A80
 by_cases c9 : t506 = true
 subst c9
 rw [if_pos rfl] at H
 replace H := Option.bind_eq_some_iff.mp H
 obtain ⟨t507, A100, H⟩ := H
 have A10 := bA A100
 clear A100
 obtain rfl := Option.some.inj H
 rotate_left
 replace c9 := Bool.eq_false_iff.mpr c9
 subst c9
 rw [if_neg bn] at H
 obtain rfl := Option.some.inj H
 rotate_left
 replace c7 := Bool.eq_false_iff.mpr c7
 subst c7
 rw [if_neg bn] at H
 obtain rfl := Option.some.inj H
 rotate_left
 replace c5 := Bool.eq_false_iff.mpr c5
 subst c5
 rw [if_neg bn] at H
 obtain rfl := Option.some.inj H
 rotate_left
 replace c3 := Bool.eq_false_iff.mpr c3
 subst c3
 rw [if_neg bn] at H
 obtain rfl := Option.some.inj H
 rotate_left
 all_goals go_enter Try.func15, Try.ntmps15
 all_goals go_wp2_with (first | ((with_reducible refine gate_dst (N := 1) rfl ?_); refine bE (N := 1) (cs := #[.slice A0_0 l0_0.length c0_0, .int .i64 a0_1, .int .i64 a0_2, .int .i64 a0_3, .int .i64 a0_4]) (t := 42) ?_; intro gb502 hg wz0 hbox hb; have BK502 := bA (hbox); have GW502 := bA (bZ hg); have GE502 := bA (bZ hg); replace HB := bA (bS hb); clear hb hbox hg; obtain ⟨hz1, hz2, hz3, hz4, hz5, hz6, hz7, hz8, hz9, hz10⟩ := bc5 BK502) | ((first | ((with_reducible refine gate_callee (f := 33) rfl ?_); refine bC (some 5) Try.func33 #[.slice A0_0 l0_0.length c0_0] ?_) | go_at_call 33); (with_reducible refine (apogeeref11_Right.calls k _ _ l0_0 true _ ?side1 ?side2 A2.out).mono ?_); (case side1 => exact bQ HR0_0); (case side2 => exact HC0_0.out); rintro e wz1 ⟨rfl, hb⟩; (first | refine ⟨_, rfl, ?_⟩ | skip); replace BK502 := bA (bB BK502 hb); replace HB := bA (bS hb); (try clear hb); obtain ⟨hz11, hz12, hz13, hz14, hz15, hz6, hz7, hz8, hz9, hz10⟩ := bc5 BK502) | (go_at_call 34; (with_reducible refine (apogeeref13_within.calls a0_1 1 100 true _ A4.out).mono ?_); rintro e w' ⟨rfl, ⟨nd, rfl⟩⟩) | (go_at_call 34; (with_reducible refine (apogeeref13_within.calls a0_2 1 65536 true _ A6.out).mono ?_); rintro e w' ⟨rfl, ⟨nd, rfl⟩⟩) | (go_at_call 34; (with_reducible refine (apogeeref13_within.calls a0_3 1 1000000 true _ A8.out).mono ?_); rintro e w' ⟨rfl, ⟨nd, rfl⟩⟩) | (go_at_call 34; (with_reducible refine (apogeeref13_within.calls a0_4 0 1073741824 t507 _ A10.out).mono ?_); rintro e w' ⟨rfl, ⟨nd, rfl⟩⟩) | (go_at_call 34; (with_reducible refine (apogeeref13_within.calls a0_3 1 1000000 false _ A8.out).mono ?_); rintro e w' ⟨rfl, ⟨nd, rfl⟩⟩) | (go_at_call 34; (with_reducible refine (apogeeref13_within.calls a0_2 1 65536 false _ A6.out).mono ?_); rintro e w' ⟨rfl, ⟨nd, rfl⟩⟩) | (go_at_call 34; (with_reducible refine (apogeeref13_within.calls a0_1 1 100 false _ A4.out).mono ?_); rintro e w' ⟨rfl, ⟨nd, rfl⟩⟩) | ((first | ((with_reducible refine gate_callee (f := 33) rfl ?_); refine bC (some 5) Try.func33 #[.slice A0_0 l0_0.length c0_0] ?_) | go_at_call 33); (with_reducible refine (apogeeref11_Right.calls k _ _ l0_0 false _ ?side1 ?side2 A2.out).mono ?_); (case side1 => exact bQ HR0_0); (case side2 => exact HC0_0.out); rintro e wz1 ⟨rfl, hb⟩; (first | refine ⟨_, rfl, ?_⟩ | skip); replace BK502 := bA (bB BK502 hb); replace HB := bA (bS hb); (try clear hb)))
 all_goals (go_ret; exact bF)
/-! ### apogeelaw18_Held: function 6 -/
def apogeelaw18_Held.f (a0_0 : Int) (a0_1 : Int) (a0_2 : Int) (a0_3 : Int) (a0_4 : Int) (a0_5 : Int) (a0_6 : Int) (a0_7 : Int) : Option (Int × Int × Int × Int × Int × Int × Int × Int) := some (a0_0, a0_1, Int.tmod a0_2 1073741824, Int.tmod a0_3 1073741824, Go.bits .and .i64 a0_4 1073741823, Int.tmod a0_5 65536, Int.tmod a0_6 65536, Int.tmod a0_7 65536)
set_option maxHeartbeats 8000000 in
set_option maxRecDepth 100000 in
theorem apogeelaw18_Held.calls (a0_0 : Int) (a0_1 : Int) (a0_2 : Int) (a0_3 : Int) (a0_4 : Int) (a0_5 : Int) (a0_6 : Int) (a0_7 : Int) (r1 : Int) (r2 : Int) (r3 : Int) (r4 : Int) (r5 : Int) (r6 : Int) (r7 : Int) (r8 : Int) (w : World) (h : apogeelaw18_Held.f a0_0 a0_1 a0_2 a0_3 a0_4 a0_5 a0_6 a0_7 = some (r1, r2, r3, r4, r5, r6, r7, r8)) :
  Calls Try.prog 6 #[.agg #[.int .i64 a0_0, .int .i64 a0_1, .int .i64 a0_2, .int .i64 a0_3, .int .i64 a0_4, .int .i64 a0_5, .int .i64 a0_6, .int .i64 a0_7]] w fun e w' => e = .returned (.agg #[.int .i64 r1, .int .i64 r2, .int .i64 r3, .int .i64 r4, .int .i64 r5, .int .i64 r6, .int .i64 r7, .int .i64 r8]) ∧ Below w.heap.size w w' := by
 have hu23 := Try.underlying23
 have HB := bA (Below.refl w.heap.size w)
 have H : (some (a0_0, a0_1, Int.tmod a0_2 1073741824, Int.tmod a0_3 1073741824, Go.bits .and .i64 a0_4 1073741823, Int.tmod a0_5 65536, Int.tmod a0_6 65536, Int.tmod a0_7 65536)) = some (r1, r2, r3, r4, r5, r6, r7, r8) := h
 clear h
 simp only [Option.some.injEq, Prod.mk.injEq] at H
 obtain ⟨rfl, rfl, rfl, rfl, rfl, rfl, rfl, rfl⟩ := H
 go_enter Try.func6, Try.ntmps6
 go_wp2_with (first | ((with_reducible refine gate_dst (N := 1) rfl ?_); refine bE (N := 1) (cs := #[.int .i64 a0_0, .int .i64 a0_1, .int .i64 a0_2, .int .i64 a0_3, .int .i64 a0_4, .int .i64 a0_5, .int .i64 a0_6, .int .i64 a0_7]) (t := 23) ?_; intro gb508 hg w2 hbox hb; have BK508 := bA (hbox); have GW508 := bA (bZ hg); have GE508 := bA (bZ hg); replace HB := bA (bS hb); clear hb hbox hg) | ((with_reducible refine gate_dst (N := 2) rfl ?_); refine bE (N := 2) (cs := #[.int .i64 0, .int .i64 0, .int .i64 0, .int .i64 0, .int .i64 0, .int .i64 0, .int .i64 0, .int .i64 0]) (t := 23) ?_; intro gb509 hg w3 hbox hb; have BK509 := bA (hbox); have GW509 := bA (bZ hg); have GE509 := bA (bZ hg); have NB508_509 := bA (bL BK508 hg); have NB509_508 := bA (bG BK508 hg); replace BK508 := bA (bB BK508 hb); replace HB := bA (bS hb); clear hb hbox hg; have hnb4 := NB508_509.out; have hnc4 := NB509_508.out; obtain ⟨hcz5_0, hcz5_1, hcz5_2, hcz5_3, hcz5_4, hcz5_5, hcz5_6, hcz5_7, hfz5_0, hfz5_1, hfz5_2, hfz5_3, hfz5_4, hfz5_5, hfz5_6, hfz5_7⟩ := bc8 BK508; obtain ⟨hcz6_0, hcz6_1, hcz6_2, hcz6_3, hcz6_4, hcz6_5, hcz6_6, hcz6_7, hfz6_0, hfz6_1, hfz6_2, hfz6_3, hfz6_4, hfz6_5, hfz6_6, hfz6_7⟩ := bc8 BK509))
 refine bodyPost_ret (results_cell_row rfl _ _ gb509 23 #[.int .i64 a0_0, .int .i64 a0_1, .int .i64 (Int.tmod a0_2 1073741824), .int .i64 (Int.tmod a0_3 1073741824), .int .i64 (Go.bits .and .i64 a0_4 1073741823), .int .i64 (Int.tmod a0_5 65536), .int .i64 (Int.tmod a0_6 65536), .int .i64 (Int.tmod a0_7 65536)] (0, 0) _ rfl (by (with_reducible repeat (first | refine blk_drewN ?_ _ | refine blk_drew ?_ | refine blk_alloc ?_ _)); refine blk_put (cs := #[.int .i64 a0_0, .int .i64 a0_1, .int .i64 (Int.tmod a0_2 1073741824), .int .i64 (Int.tmod a0_3 1073741824), .int .i64 (Go.bits .and .i64 a0_4 1073741823), .int .i64 (Int.tmod a0_5 65536), .int .i64 (Int.tmod a0_6 65536), .int .i64 0]) ?_ 7 _ rfl; (with_reducible repeat (first | refine blk_drewN ?_ _ | refine blk_drew ?_ | refine blk_alloc ?_ _)); refine blk_put (cs := #[.int .i64 a0_0, .int .i64 a0_1, .int .i64 (Int.tmod a0_2 1073741824), .int .i64 (Int.tmod a0_3 1073741824), .int .i64 (Go.bits .and .i64 a0_4 1073741823), .int .i64 (Int.tmod a0_5 65536), .int .i64 0, .int .i64 0]) ?_ 6 _ rfl; (with_reducible repeat (first | refine blk_drewN ?_ _ | refine blk_drew ?_ | refine blk_alloc ?_ _)); refine blk_put (cs := #[.int .i64 a0_0, .int .i64 a0_1, .int .i64 (Int.tmod a0_2 1073741824), .int .i64 (Int.tmod a0_3 1073741824), .int .i64 (Go.bits .and .i64 a0_4 1073741823), .int .i64 0, .int .i64 0, .int .i64 0]) ?_ 5 _ rfl; (with_reducible repeat (first | refine blk_drewN ?_ _ | refine blk_drew ?_ | refine blk_alloc ?_ _)); refine blk_put (cs := #[.int .i64 a0_0, .int .i64 a0_1, .int .i64 (Int.tmod a0_2 1073741824), .int .i64 (Int.tmod a0_3 1073741824), .int .i64 0, .int .i64 0, .int .i64 0, .int .i64 0]) ?_ 4 _ rfl; (with_reducible repeat (first | refine blk_drewN ?_ _ | refine blk_drew ?_ | refine blk_alloc ?_ _)); refine blk_put (cs := #[.int .i64 a0_0, .int .i64 a0_1, .int .i64 (Int.tmod a0_2 1073741824), .int .i64 0, .int .i64 0, .int .i64 0, .int .i64 0, .int .i64 0]) ?_ 3 _ rfl; (with_reducible repeat (first | refine blk_drewN ?_ _ | refine blk_drew ?_ | refine blk_alloc ?_ _)); refine blk_put (cs := #[.int .i64 a0_0, .int .i64 a0_1, .int .i64 0, .int .i64 0, .int .i64 0, .int .i64 0, .int .i64 0, .int .i64 0]) ?_ 2 _ rfl; (with_reducible repeat (first | refine blk_drewN ?_ _ | refine blk_drew ?_ | refine blk_alloc ?_ _)); refine blk_put (cs := #[.int .i64 a0_0, .int .i64 0, .int .i64 0, .int .i64 0, .int .i64 0, .int .i64 0, .int .i64 0, .int .i64 0]) ?_ 1 _ rfl; (with_reducible repeat (first | refine blk_drewN ?_ _ | refine blk_drew ?_ | refine blk_alloc ?_ _)); refine blk_put (cs := #[.int .i64 0, .int .i64 0, .int .i64 0, .int .i64 0, .int .i64 0, .int .i64 0, .int .i64 0, .int .i64 0]) ?_ 0 _ rfl; (repeat ((with_reducible repeat (first | refine blk_drewN ?_ _ | refine blk_drew ?_ | refine blk_alloc ?_ _)); refine blk_far ?_ NB509_508.out _)); (with_reducible repeat (first | refine blk_drewN ?_ _ | refine blk_drew ?_ | refine blk_alloc ?_ _)); exact BK509.out) Try.underlying23 rfl (by kernel_rfl)) rfl ?_
 exact bF
end Go.Proofs.Ytfeekdoakoabeaa.G
