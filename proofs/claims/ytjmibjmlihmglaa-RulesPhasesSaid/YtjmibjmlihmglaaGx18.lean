-- Written by a program of this session out of the translation; Lean checks it.
import Derived.Test.YtjmibjmlihmglaaGx0
import Derived.Test.YtjmibjmlihmglaaGx17
namespace Go.Proofs.Ytjmibjmlihmglaa.G
open Go.RowKit Go.Proofs.YtjmibjmlihmglaaW.PrintWords Go.Proofs.YtjmibjmlihmglaaW.PrintLast Go.Proofs.YtjmibjmlihmglaaW.PrintMore
attribute [local go_sem] max2_int min2_int max_two min_two max_three min_three max_four min_four   -- for this text's walks alone
set_option linter.unusedVariables false
set_option linter.unusedSimpArgs false

/-! ### apogeeref11_Right: function 28 -/
mutual
def apogeeref11_Right.l0 : Nat → List (S41) → Int → Option (Bool)
 | 0, _, _ => none
 | k + 1, x0, x3 => if x3 < (x0.length : Int) then (apogeeref11_Right.j1 k x0 x3 (decide ((x0.length : Int) ≤ 8))) else (apogeeref11_Right.j1 k x0 x3 false)
def apogeeref11_Right.j1 : Nat → List (S41) → Int → Bool → Option (Bool)
 | 0, _, _, _ => none
 | k + 1, x0, x3, x12 => if x12 = true then (if 0 ≤ x3 then (if x3 < (x0.length : Int) then (if ((rd_T41 x0 x3).f0) < (-1073741824) then (some false) else (if ((rd_T41 x0 x3).f0) > 1073741824 then (some false) else (if ((rd_T41 x0 x3).f1) < (-1073741824) then (some false) else (if ((rd_T41 x0 x3).f1) > 1073741824 then (some false) else (apogeeref11_Right.l0 k x0 (wrap64 (x3 + 1))))))) else (none)) else (none)) else ((apogeeref11_Simple.f k x0).bind fun t465 => (some t465))
end
def apogeeref11_Right.f (k : Nat) (l0 : List (S41)) : Option (Bool) := apogeeref11_Right.l0 k l0 0
theorem apogeeref11_Right.mono_l : ∀ k, (∀ y0 y1, LeO (apogeeref11_Right.l0 k y0 y1) (apogeeref11_Right.l0 (k + 1) y0 y1)) ∧ (∀ y0 y1 y2, LeO (apogeeref11_Right.j1 k y0 y1 y2) (apogeeref11_Right.j1 (k + 1) y0 y1 y2))
 | 0 => ⟨fun _ _ r h => by simp [apogeeref11_Right.l0] at h, fun _ _ _ r h => by simp [apogeeref11_Right.j1] at h⟩
 | k + 1 => by
  obtain ⟨ih0, ih1⟩ := apogeeref11_Right.mono_l k
  refine ⟨?_, ?_⟩
  ·intro y0 y1
   unfold apogeeref11_Right.l0
   have m0_ := @apogeeref11_Simple.mono
   exact bMo
  ·intro y0 y1 y2
   unfold apogeeref11_Right.j1
   have m0_ := @apogeeref11_Simple.mono
   exact bMo
theorem apogeeref11_Right.mono : ∀ a0 k, LeO (apogeeref11_Right.f k a0) (apogeeref11_Right.f (k + 1) a0) := by
 intro a0 k
 obtain ⟨ih0, ih1⟩ := apogeeref11_Right.mono_l k
 unfold apogeeref11_Right.f
 have m0_ := @apogeeref11_Simple.mono
 exact bMo
set_option maxHeartbeats 8000000 in
set_option maxRecDepth 100000 in
theorem apogeeref11_Right.calls (k : Nat) (A0 : Option Addr) (c0 : Nat) (l0 : List (S41)) (r : Bool) (w : World) (hr0 : Kd.C k41 w A0 l0.length l0) (hc0 : l0.length ≤ c0) (h : apogeeref11_Right.f k l0 = some r) :
  Calls Try.prog 28 #[.slice A0 l0.length c0] w fun e w' => e = .returned (.bool r) ∧ Below w.heap.size w w' := by
 have HR0 := bA hr0
 have HC0 := bA hc0
 clear hr0 hc0
 have HB := bA (Below.refl w.heap.size w)
 have H : (apogeeref11_Right.l0 k l0 0) = some r := h
 clear h
 have H' := bA H
 clear H
 go_enter Try.func28, Try.ntmps28
 go_wp2
 go_loopg [3] k (fun kq v3 w' => ∃ (x3_1 : Int), v3 = .int .i64 x3_1 ∧ Aside0 (apogeeref11_Right.l0 kq l0 x3_1 = some r) ∧ Aside0 (kq ≤ k) ∧ Aside0 (Below w.heap.size w w'))
 case atStart => exact ⟨(0), bs, H', ⟨Nat.le_refl _⟩, ⟨bX⟩⟩
 clear H'
 obtain ⟨x3_1, rfl, HA, HK1, HB⟩ := hrel
 cases gk with
 | zero => exact absurd HA.out (by simp [apogeeref11_Right.l0])
 | succ k1 =>
  have H := HA.out
  clear HA
  simp only [apogeeref11_Right.l0] at H
  have HC2 := bA H
  clear H
  go_upto_region 2 with (fail)
  go_cut [12] (fun v12 wc => ∃ (kq : Nat) (x12_1 : Bool), v12 = .bool x12_1 ∧ Aside0 (apogeeref11_Right.j1 kq l0 x3_1 x12_1 = some r) ∧ Aside0 (kq ≤ k1) ∧ Aside0 (Below w.heap.size w wc))
  case first =>
   have H := HC2.out
   clear HC2
   by_cases c3 : x3_1 < (l0.length : Int)
   rw [if_pos c3] at H
   have c3b0 : decide (x3_1 < (l0.length : Int)) = true := decide_eq_true c3
   clear c3
   (first | rw [c3b0] | (simp only [i64_w, i32_w]; rw [c3b0]) | skip)
   have H' := bA H
   clear H
   rotate_left
   rw [if_neg c3] at H
   have c3b0 : decide (x3_1 < (l0.length : Int)) = false := decide_eq_false c3
   clear c3
   (first | rw [c3b0] | (simp only [i64_w, i32_w]; rw [c3b0]) | skip)
   have H' := bA H
   clear H
   rotate_left
   all_goals go_wp2
   ·go_meet
    case rel => exact ⟨_, (decide ((l0.length : Int) ≤ 8)), bs, H', ⟨by have := HK1.out; first | omega | exact Nat.le_refl _⟩, ⟨bX⟩⟩
   go_meet
   case rel => exact ⟨_, (false), bs, H', ⟨by have := HK1.out; first | omega | exact Nat.le_refl _⟩, ⟨bX⟩⟩
  clear HC2
  try clear c2
  try clear p2
  try clear c3
  try clear c3b0
  obtain ⟨kq, x12_1, rfl, HA, HJ1, HB⟩ := hcut
  cases kq with
  | zero => exact absurd HA.out (by simp [apogeeref11_Right.j1])
  | succ kj1 =>
   have H := HA.out
   clear HA
   simp only [apogeeref11_Right.j1] at H
   by_cases c4 : x12_1 = true
   subst c4
   rw [if_pos rfl] at H
   by_cases c5 : 0 ≤ x3_1
   rw [if_pos c5] at H
   have c5b0 : decide (0 ≤ x3_1) = true := decide_eq_true c5
   clear c5
   by_cases c6 : x3_1 < (l0.length : Int)
   rw [if_pos c6] at H
   have c6b0 : decide (x3_1 < (l0.length : Int)) = true := decide_eq_true c6
   clear c6
   by_cases c7 : ((rd_T41 l0 x3_1).f0) < (-1073741824)
   rw [if_pos c7] at H
   have c7b0 : decide (((rd_T41 l0 x3_1).f0) < (-1073741824)) = true := decide_eq_true c7
   clear c7
   obtain rfl := Option.some.inj H
   have p461 : 0 ≤ (x3_1 : Int) := bo
   have q461 : x3_1 < (l0.length : Int) := bo
   obtain ⟨ad461, e461, hx461_0, hx461_1⟩ := at_T41 HR0.out x3_1 p461 q461
   cases e461
   replace hx461_0 := bK hx461_0
   replace hx461_1 := bK hx461_1
   replace p461 := eq_true p461
   replace q461 := eq_true q461
   rotate_left
   rw [if_neg c7] at H
   have c7b0 : decide (((rd_T41 l0 x3_1).f0) < (-1073741824)) = false := decide_eq_false c7
   clear c7
   by_cases c8 : ((rd_T41 l0 x3_1).f0) > 1073741824
   rw [if_pos c8] at H
   have c8b0 : decide (1073741824 < ((rd_T41 l0 x3_1).f0)) = true := decide_eq_true c8
   clear c8
   obtain rfl := Option.some.inj H
   have p461 : 0 ≤ (x3_1 : Int) := bo
   have q461 : x3_1 < (l0.length : Int) := bo
   obtain ⟨ad461, e461, hx461_0, hx461_1⟩ := at_T41 HR0.out x3_1 p461 q461
   cases e461
   replace hx461_0 := bK hx461_0
   replace hx461_1 := bK hx461_1
   replace p461 := eq_true p461
   replace q461 := eq_true q461
   have p462 : 0 ≤ (x3_1 : Int) := bo
   have q462 : x3_1 < (l0.length : Int) := bo
   obtain ⟨ad462, e462, hx462_0, hx462_1⟩ := at_T41 HR0.out x3_1 p462 q462
   obtain rfl : ad461 = ad462 := (by injection e462)
   replace hx462_0 := bK hx462_0
   replace hx462_1 := bK hx462_1
   replace p462 := eq_true p462
   replace q462 := eq_true q462
   rotate_left
   rw [if_neg c8] at H
   have c8b0 : decide (1073741824 < ((rd_T41 l0 x3_1).f0)) = false := decide_eq_false c8
   clear c8
   by_cases c9 : ((rd_T41 l0 x3_1).f1) < (-1073741824)
   rw [if_pos c9] at H
   have c9b0 : decide (((rd_T41 l0 x3_1).f1) < (-1073741824)) = true := decide_eq_true c9
   clear c9
   obtain rfl := Option.some.inj H
   have p461 : 0 ≤ (x3_1 : Int) := bo
   have q461 : x3_1 < (l0.length : Int) := bo
   obtain ⟨ad461, e461, hx461_0, hx461_1⟩ := at_T41 HR0.out x3_1 p461 q461
   cases e461
   replace hx461_0 := bK hx461_0
   replace hx461_1 := bK hx461_1
   replace p461 := eq_true p461
   replace q461 := eq_true q461
   have p462 : 0 ≤ (x3_1 : Int) := bo
   have q462 : x3_1 < (l0.length : Int) := bo
   obtain ⟨ad462, e462, hx462_0, hx462_1⟩ := at_T41 HR0.out x3_1 p462 q462
   obtain rfl : ad461 = ad462 := (by injection e462)
   replace hx462_0 := bK hx462_0
   replace hx462_1 := bK hx462_1
   replace p462 := eq_true p462
   replace q462 := eq_true q462
   have p463 : 0 ≤ (x3_1 : Int) := bo
   have q463 : x3_1 < (l0.length : Int) := bo
   obtain ⟨ad463, e463, hx463_0, hx463_1⟩ := at_T41 HR0.out x3_1 p463 q463
   obtain rfl : ad461 = ad463 := (by injection e463)
   replace hx463_0 := bK hx463_0
   replace hx463_1 := bK hx463_1
   replace p463 := eq_true p463
   replace q463 := eq_true q463
   rotate_left
   rw [if_neg c9] at H
   have c9b0 : decide (((rd_T41 l0 x3_1).f1) < (-1073741824)) = false := decide_eq_false c9
   clear c9
   by_cases c10 : ((rd_T41 l0 x3_1).f1) > 1073741824
   rw [if_pos c10] at H
   have c10b0 : decide (1073741824 < ((rd_T41 l0 x3_1).f1)) = true := decide_eq_true c10
   clear c10
   obtain rfl := Option.some.inj H
   have p461 : 0 ≤ (x3_1 : Int) := bo
   have q461 : x3_1 < (l0.length : Int) := bo
   obtain ⟨ad461, e461, hx461_0, hx461_1⟩ := at_T41 HR0.out x3_1 p461 q461
   cases e461
   replace hx461_0 := bK hx461_0
   replace hx461_1 := bK hx461_1
   replace p461 := eq_true p461
   replace q461 := eq_true q461
   have p462 : 0 ≤ (x3_1 : Int) := bo
   have q462 : x3_1 < (l0.length : Int) := bo
   obtain ⟨ad462, e462, hx462_0, hx462_1⟩ := at_T41 HR0.out x3_1 p462 q462
   obtain rfl : ad461 = ad462 := (by injection e462)
   replace hx462_0 := bK hx462_0
   replace hx462_1 := bK hx462_1
   replace p462 := eq_true p462
   replace q462 := eq_true q462
   have p463 : 0 ≤ (x3_1 : Int) := bo
   have q463 : x3_1 < (l0.length : Int) := bo
   obtain ⟨ad463, e463, hx463_0, hx463_1⟩ := at_T41 HR0.out x3_1 p463 q463
   obtain rfl : ad461 = ad463 := (by injection e463)
   replace hx463_0 := bK hx463_0
   replace hx463_1 := bK hx463_1
   replace p463 := eq_true p463
   replace q463 := eq_true q463
   have p464 : 0 ≤ (x3_1 : Int) := bo
   have q464 : x3_1 < (l0.length : Int) := bo
   obtain ⟨ad464, e464, hx464_0, hx464_1⟩ := at_T41 HR0.out x3_1 p464 q464
   obtain rfl : ad461 = ad464 := (by injection e464)
   replace hx464_0 := bK hx464_0
   replace hx464_1 := bK hx464_1
   replace p464 := eq_true p464
   replace q464 := eq_true q464
   rotate_left
   rw [if_neg c10] at H
   have c10b0 : decide (1073741824 < ((rd_T41 l0 x3_1).f1)) = false := decide_eq_false c10
   clear c10
   have H' := bA H
   clear H
   have p461 : 0 ≤ (x3_1 : Int) := bo
   have q461 : x3_1 < (l0.length : Int) := bo
   obtain ⟨ad461, e461, hx461_0, hx461_1⟩ := at_T41 HR0.out x3_1 p461 q461
   cases e461
   replace hx461_0 := bK hx461_0
   replace hx461_1 := bK hx461_1
   replace p461 := eq_true p461
   replace q461 := eq_true q461
   have p462 : 0 ≤ (x3_1 : Int) := bo
   have q462 : x3_1 < (l0.length : Int) := bo
   obtain ⟨ad462, e462, hx462_0, hx462_1⟩ := at_T41 HR0.out x3_1 p462 q462
   obtain rfl : ad461 = ad462 := (by injection e462)
   replace hx462_0 := bK hx462_0
   replace hx462_1 := bK hx462_1
   replace p462 := eq_true p462
   replace q462 := eq_true q462
   have p463 : 0 ≤ (x3_1 : Int) := bo
   have q463 : x3_1 < (l0.length : Int) := bo
   obtain ⟨ad463, e463, hx463_0, hx463_1⟩ := at_T41 HR0.out x3_1 p463 q463
   obtain rfl : ad461 = ad463 := (by injection e463)
   replace hx463_0 := bK hx463_0
   replace hx463_1 := bK hx463_1
   replace p463 := eq_true p463
   replace q463 := eq_true q463
   have p464 : 0 ≤ (x3_1 : Int) := bo
   have q464 : x3_1 < (l0.length : Int) := bo
   obtain ⟨ad464, e464, hx464_0, hx464_1⟩ := at_T41 HR0.out x3_1 p464 q464
   obtain rfl : ad461 = ad464 := (by injection e464)
   replace hx464_0 := bK hx464_0
   replace hx464_1 := bK hx464_1
   replace p464 := eq_true p464
   replace q464 := eq_true q464
   rotate_left
   rw [if_neg c6] at H
   exact absurd H (by simp)
   rw [if_neg c5] at H
   exact absurd H (by simp)
   replace c4 := Bool.eq_false_iff.mpr c4
   subst c4
   rw [if_neg bn] at H
   replace H := Option.bind_eq_some_iff.mp H
   obtain ⟨t465, A110, H⟩ := H
   have A11 := bA A110
   clear A110
   obtain rfl := Option.some.inj H
   rotate_left
   all_goals go_wp2_with (first | ((first | ((with_reducible refine gate_callee (f := 30) rfl ?_); refine bC (some 46) Try.func30 #[.slice A0 l0.length c0] ?_) | go_at_call 30); (with_reducible refine (apogeeref11_Simple.calls kj1 _ _ l0 t465 _ ?side1 ?side2 A11.out).mono ?_); (case side1 => exact bQ HR0); (case side2 => exact HC0.out); rintro e wz0 ⟨rfl, hb⟩; (first | refine ⟨_, rfl, ?_⟩ | skip); replace HB := bA (bS hb); (try clear hb)))
   ·go_ret
    exact bF
   ·go_ret
    exact bF
   ·go_ret
    exact bF
   ·go_ret
    exact bF
   ·go_roundg kj1
    case measure => have := HK1.out; have := HJ1.out; omega
    case rel => exact ⟨(wrap64 (x3_1 + 1)), bs, H', ⟨by have := HK1.out; have := HJ1.out; omega⟩, ⟨bX⟩⟩
   go_ret
   exact bF
/-! ### apogeeref13_within: function 55 -/
def apogeeref13_within.f (a0 : Int) (a1 : Int) (a2 : Int) : Option (Bool) := if a0 ≥ a1 then (some (decide (a0 ≤ a2))) else (some false)
set_option maxHeartbeats 8000000 in
set_option maxRecDepth 100000 in
theorem apogeeref13_within.calls (a0 : Int) (a1 : Int) (a2 : Int) (r : Bool) (w : World) (h : apogeeref13_within.f a0 a1 a2 = some r) :
  Calls Try.prog 55 #[.int .i64 a0, .int .i64 a1, .int .i64 a2] w fun e w' => e = .returned (.bool r) ∧ Drawn0 w w' := by
 have H : (if a0 ≥ a1 then (some (decide (a0 ≤ a2))) else (some false)) = some r := h
 clear h
 by_cases c4 : a0 ≥ a1
 rw [if_pos c4] at H
 have c4b0 : decide (a1 ≤ a0) = true := decide_eq_true c4
 clear c4
 obtain rfl := Option.some.inj H
 rotate_left
 rw [if_neg c4] at H
 have c4b0 : decide (a1 ≤ a0) = false := decide_eq_false c4
 clear c4
 obtain rfl := Option.some.inj H
 rotate_left
 all_goals go_enter Try.func55, Try.ntmps55
 all_goals go_wp2
 all_goals (go_ret; exact bD)
/-! ### apogeeref13_RightPhase: function 23 -/
def apogeeref13_RightPhase.f (k : Nat) (l0_0 : List (S41)) (a0_1 : Int) (a0_2 : Int) (a0_3 : Int) (a0_4 : Int) : Option (Bool) := (apogeeref11_Right.f k l0_0).bind fun t467 => (if t467 = true then ((apogeeref13_within.f a0_1 1 100).bind fun t468 => (if t468 = true then ((apogeeref13_within.f a0_2 1 65536).bind fun t469 => (if t469 = true then ((apogeeref13_within.f a0_3 1 1000000).bind fun t470 => (if t470 = true then ((apogeeref13_within.f a0_4 0 1073741824).bind fun t471 => (some t471)) else (some false))) else (some false))) else (some false))) else (some false))
theorem apogeeref13_RightPhase.mono : ∀ a0 a1 a2 a3 a4 k, LeO (apogeeref13_RightPhase.f k a0 a1 a2 a3 a4) (apogeeref13_RightPhase.f (k + 1) a0 a1 a2 a3 a4) := by
 intro a0 a1 a2 a3 a4 k
 unfold apogeeref13_RightPhase.f
 have m0_ := @apogeeref11_Right.mono
 exact bMo
set_option maxHeartbeats 8000000 in
set_option maxRecDepth 100000 in
theorem apogeeref13_RightPhase.calls (k : Nat) (A0_0 : Option Addr) (c0_0 : Nat) (l0_0 : List (S41)) (a0_1 : Int) (a0_2 : Int) (a0_3 : Int) (a0_4 : Int) (r : Bool) (w : World) (hr0_0 : Kd.C k41 w A0_0 l0_0.length l0_0) (hc0_0 : l0_0.length ≤ c0_0) (h : apogeeref13_RightPhase.f k l0_0 a0_1 a0_2 a0_3 a0_4 = some r) :
  Calls Try.prog 23 #[.agg #[.slice A0_0 l0_0.length c0_0, .int .i64 a0_1, .int .i64 a0_2, .int .i64 a0_3, .int .i64 a0_4]] w fun e w' => e = .returned (.bool r) ∧ Below w.heap.size w w' := by
 have hu30 := Try.underlying30
 have HR0_0 := bA hr0_0
 have HC0_0 := bA hc0_0
 clear hr0_0 hc0_0
 have HB := bA (Below.refl w.heap.size w)
 have H : ((apogeeref11_Right.f k l0_0).bind fun t467 => (if t467 = true then ((apogeeref13_within.f a0_1 1 100).bind fun t468 => (if t468 = true then ((apogeeref13_within.f a0_2 1 65536).bind fun t469 => (if t469 = true then ((apogeeref13_within.f a0_3 1 1000000).bind fun t470 => (if t470 = true then ((apogeeref13_within.f a0_4 0 1073741824).bind fun t471 => (some t471)) else (some false))) else (some false))) else (some false))) else (some false))) = some r := h
 clear h
 replace H := Option.bind_eq_some_iff.mp H
 obtain ⟨t467, A20, H⟩ := H
 have A2 := bA A20
 clear A20
 by_cases c3 : t467 = true
 subst c3
 rw [if_pos rfl] at H
 replace H := Option.bind_eq_some_iff.mp H
 obtain ⟨t468, A40, H⟩ := H
 have A4 := bA A40
 clear A40
 by_cases c5 : t468 = true
 subst c5
 rw [if_pos rfl] at H
 replace H := Option.bind_eq_some_iff.mp H
 obtain ⟨t469, A60, H⟩ := H
 have A6 := bA A60
 clear A60
 by_cases c7 : t469 = true
 subst c7
 rw [if_pos rfl] at H
 replace H := Option.bind_eq_some_iff.mp H
 obtain ⟨t470, A80, H⟩ := H
 have A8 := bA A80
 clear A80
 by_cases c9 : t470 = true
 subst c9
 rw [if_pos rfl] at H
 replace H := Option.bind_eq_some_iff.mp H
 obtain ⟨t471, A100, H⟩ := H
 have A10 := bA A100
 clear A100
 obtain rfl := Option.some.inj H
 rotate_left
 replace c9 := Bool.eq_false_iff.mpr c9
 subst c9
 rw [if_neg bn] at H
 obtain rfl := Option.some.inj H
 rotate_left
 replace c7 := Bool.eq_false_iff.mpr c7
 subst c7
 rw [if_neg bn] at H
 obtain rfl := Option.some.inj H
 rotate_left
 replace c5 := Bool.eq_false_iff.mpr c5
 subst c5
 rw [if_neg bn] at H
 obtain rfl := Option.some.inj H
 rotate_left
 replace c3 := Bool.eq_false_iff.mpr c3
 subst c3
 rw [if_neg bn] at H
 obtain rfl := Option.some.inj H
 rotate_left
 all_goals go_enter Try.func23, Try.ntmps23
 all_goals go_wp2_with (first | ((with_reducible refine gate_dst (N := 1) rfl ?_); refine bE (N := 1) (cs := #[.slice A0_0 l0_0.length c0_0, .int .i64 a0_1, .int .i64 a0_2, .int .i64 a0_3, .int .i64 a0_4]) (t := 30) ?_; intro gb466 hg wz0 hbox hb; have BK466 := bA (hbox); have GW466 := bA (bZ hg); have GE466 := bA (bZ hg); replace HB := bA (bS hb); clear hb hbox hg; obtain ⟨hz1, hz2, hz3, hz4, hz5, hz6, hz7, hz8, hz9, hz10⟩ := bc5 BK466) | ((first | ((with_reducible refine gate_callee (f := 28) rfl ?_); refine bC (some 5) Try.func28 #[.slice A0_0 l0_0.length c0_0] ?_) | go_at_call 28); (with_reducible refine (apogeeref11_Right.calls k _ _ l0_0 true _ ?side1 ?side2 A2.out).mono ?_); (case side1 => exact bQ HR0_0); (case side2 => exact HC0_0.out); rintro e wz1 ⟨rfl, hb⟩; (first | refine ⟨_, rfl, ?_⟩ | skip); replace BK466 := bA (bB BK466 hb); replace HB := bA (bS hb); (try clear hb); obtain ⟨hz11, hz12, hz13, hz14, hz15, hz6, hz7, hz8, hz9, hz10⟩ := bc5 BK466) | (go_at_call 55; (with_reducible refine (apogeeref13_within.calls a0_1 1 100 true _ A4.out).mono ?_); rintro e w' ⟨rfl, ⟨nd, rfl⟩⟩) | (go_at_call 55; (with_reducible refine (apogeeref13_within.calls a0_2 1 65536 true _ A6.out).mono ?_); rintro e w' ⟨rfl, ⟨nd, rfl⟩⟩) | (go_at_call 55; (with_reducible refine (apogeeref13_within.calls a0_3 1 1000000 true _ A8.out).mono ?_); rintro e w' ⟨rfl, ⟨nd, rfl⟩⟩) | (go_at_call 55; (with_reducible refine (apogeeref13_within.calls a0_4 0 1073741824 t471 _ A10.out).mono ?_); rintro e w' ⟨rfl, ⟨nd, rfl⟩⟩) | (go_at_call 55; (with_reducible refine (apogeeref13_within.calls a0_3 1 1000000 false _ A8.out).mono ?_); rintro e w' ⟨rfl, ⟨nd, rfl⟩⟩) | (go_at_call 55; (with_reducible refine (apogeeref13_within.calls a0_2 1 65536 false _ A6.out).mono ?_); rintro e w' ⟨rfl, ⟨nd, rfl⟩⟩) | (go_at_call 55; (with_reducible refine (apogeeref13_within.calls a0_1 1 100 false _ A4.out).mono ?_); rintro e w' ⟨rfl, ⟨nd, rfl⟩⟩) | ((first | ((with_reducible refine gate_callee (f := 28) rfl ?_); refine bC (some 5) Try.func28 #[.slice A0_0 l0_0.length c0_0] ?_) | go_at_call 28); (with_reducible refine (apogeeref11_Right.calls k _ _ l0_0 false _ ?side1 ?side2 A2.out).mono ?_); (case side1 => exact bQ HR0_0); (case side2 => exact HC0_0.out); rintro e wz1 ⟨rfl, hb⟩; (first | refine ⟨_, rfl, ?_⟩ | skip); replace BK466 := bA (bB BK466 hb); replace HB := bA (bS hb); (try clear hb)))
 all_goals (go_ret; exact bF)
end Go.Proofs.Ytjmibjmlihmglaa.G
