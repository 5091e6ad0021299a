-- Written by a program of this session out of the translation; Lean checks it.
import Derived.Test.YtfeekdoakoabeaaGx0
import Derived.Test.YtfeekdoakoabeaaGx1
import Derived.Test.YtfeekdoakoabeaaGx17
import Derived.Test.YtfeekdoakoabeaaGx19
import Derived.Test.YtfeekdoakoabeaaGx20
namespace Go.Proofs.Ytfeekdoakoabeaa.G
open Go.RowKit Go.Proofs.YtfeekdoakoabeaaW.PrintWords Go.Proofs.YtfeekdoakoabeaaW.PrintLast Go.Proofs.YtfeekdoakoabeaaW.PrintMore
attribute [local go_sem] max2_int min2_int max_two min_two max_three min_three max_four min_four   -- for this text's walks alone
set_option linter.unusedVariables false
set_option linter.unusedSimpArgs false

attribute [local go_sem high] eqA28
/-! ### apogeeref11_Simple: function 50 -/
mutual
def apogeeref11_Simple.j0 : Nat → List (S28) → Int → Bool → Option (Bool)
 | 0, _, _, _ => none
 | k + 1, x0, x3, x18 => if x18 = true then (some false) else (apogeeref11_Simple.l0 k x0 x3 0)
def apogeeref11_Simple.l0 : Nat → List (S28) → Int → Int → Option (Bool)
 | 0, _, _, _ => none
 | k + 1, x0, x3, x4 => if x4 < x3 then (if 0 ≤ x4 then (if x4 < (x0.length : Int) then ((apogeeref10_Right.f ((rd_T28 x0 x4).f0) ((rd_T28 x0 x4).f1)).bind fun t481 => (if t481 = true then (apogeeref11_Simple.l0 k x0 x3 (wrap64 (x4 + 1))) else (some false))) else (none)) else (none)) else (apogeeref11_Simple.l1 k x0 x3 0)
def apogeeref11_Simple.l1 : Nat → List (S28) → Int → Int → Option (Bool)
 | 0, _, _, _ => none
 | k + 1, x0, x3, x5 => if x5 < x3 then (apogeeref11_Simple.l2 k x0 x3 x5 (wrap64 (x5 + 1))) else (some true)
def apogeeref11_Simple.l2 : Nat → List (S28) → Int → Int → Int → Option (Bool)
 | 0, _, _, _, _ => none
 | k + 1, x0, x3, x5, x6 => if x6 < x3 then (if 0 ≤ x5 then (if x5 < (x0.length : Int) then ((apogeeref11_next.f x0 x5).bind fun bt483 => (if 0 ≤ x6 then (if x6 < (x0.length : Int) then ((apogeeref11_next.f x0 x6).bind fun bt486 => (apogeeref11_Simple.j4 k x0 x3 x5 x6 (((rd_T28 x0 x5).f0) == ((rd_T28 x0 x6).f0) && (((rd_T28 x0 x5).f1) == ((rd_T28 x0 x6).f1))) ((rd_T28 x0 x5).f0) ((rd_T28 x0 x5).f1) bt483.1 bt483.2 ((rd_T28 x0 x6).f0) ((rd_T28 x0 x6).f1) bt486.1 bt486.2)) else (none)) else (none))) else (none)) else (none)) else (apogeeref11_Simple.l1 k x0 x3 (wrap64 (x5 + 1)))
def apogeeref11_Simple.j4 : Nat → List (S28) → Int → Int → Int → Bool → Int → Int → Int → Int → Int → Int → Int → Int → Option (Bool)
 | 0, _, _, _, _, _, _, _, _, _, _, _, _, _ => none
 | k + 1, x0, x3, x5, x6, x56, x489000, x489001, x490000, x490001, x491000, x491001, x492000, x492001 => if x56 = true then (some false) else (if x6 = (wrap64 (x5 + 1)) then ((apogeeref10_On.f k x492000 x492001 x489000 x489001 x490000 x490001).bind fun t492 => (if t492 = true then (some false) else ((apogeeref10_On.f k x489000 x489001 x491000 x491001 x492000 x492001).bind fun t493 => (if t493 = true then (some false) else (apogeeref11_Simple.l2 k x0 x3 x5 (wrap64 (x6 + 1))))))) else (if x5 = 0 then (apogeeref11_Simple.j5 k x0 x3 x5 x6 (x6 == (wrap64 (x3 - 1))) x489000 x489001 x490000 x490001 x491000 x491001 x492000 x492001) else (apogeeref11_Simple.j5 k x0 x3 x5 x6 false x489000 x489001 x490000 x490001 x491000 x491001 x492000 x492001)))
def apogeeref11_Simple.j5 : Nat → List (S28) → Int → Int → Int → Bool → Int → Int → Int → Int → Int → Int → Int → Int → Option (Bool)
 | 0, _, _, _, _, _, _, _, _, _, _, _, _, _ => none
 | k + 1, x0, x3, x5, x6, x75, x489000, x489001, x490000, x490001, x491000, x491001, x492000, x492001 => if x75 = true then ((apogeeref10_On.f k x491000 x491001 x489000 x489001 x490000 x490001).bind fun t494 => (if t494 = true then (some false) else ((apogeeref10_On.f k x490000 x490001 x491000 x491001 x492000 x492001).bind fun t495 => (if t495 = true then (some false) else (apogeeref11_Simple.l2 k x0 x3 x5 (wrap64 (x6 + 1))))))) else ((apogeeref10_Meet.f k x489000 x489001 x490000 x490001 x491000 x491001 x492000 x492001).bind fun t496 => (if t496 = true then (some false) else (apogeeref11_Simple.l2 k x0 x3 x5 (wrap64 (x6 + 1)))))
end
def apogeeref11_Simple.f (k : Nat) (l0 : List (S28)) : Option (Bool) := if (l0.length : Int) < 3 then (apogeeref11_Simple.j0 k l0 (l0.length : Int) true) else (apogeeref11_Simple.j0 k l0 (l0.length : Int) (decide ((l0.length : Int) > 8)))
theorem apogeeref11_Simple.mono_l : ∀ k, (∀ y0 y1 y2, LeO (apogeeref11_Simple.j0 k y0 y1 y2) (apogeeref11_Simple.j0 (k + 1) y0 y1 y2)) ∧ (∀ y0 y1 y2, LeO (apogeeref11_Simple.l0 k y0 y1 y2) (apogeeref11_Simple.l0 (k + 1) y0 y1 y2)) ∧ (∀ y0 y1 y2, LeO (apogeeref11_Simple.l1 k y0 y1 y2) (apogeeref11_Simple.l1 (k + 1) y0 y1 y2)) ∧ (∀ y0 y1 y2 y3, LeO (apogeeref11_Simple.l2 k y0 y1 y2 y3) (apogeeref11_Simple.l2 (k + 1) y0 y1 y2 y3)) ∧ (∀ y0 y1 y2 y3 y4 y5 y6 y7 y8 y9 y10 y11 y12, LeO (apogeeref11_Simple.j4 k y0 y1 y2 y3 y4 y5 y6 y7 y8 y9 y10 y11 y12) (apogeeref11_Simple.j4 (k + 1) y0 y1 y2 y3 y4 y5 y6 y7 y8 y9 y10 y11 y12)) ∧ (∀ y0 y1 y2 y3 y4 y5 y6 y7 y8 y9 y10 y11 y12, LeO (apogeeref11_Simple.j5 k y0 y1 y2 y3 y4 y5 y6 y7 y8 y9 y10 y11 y12) (apogeeref11_Simple.j5 (k + 1) y0 y1 y2 y3 y4 y5 y6 y7 y8 y9 y10 y11 y12))
 | 0 => ⟨fun _ _ _ r h => by simp [apogeeref11_Simple.j0] at h, fun _ _ _ r h => by simp [apogeeref11_Simple.l0] at h, fun _ _ _ r h => by simp [apogeeref11_Simple.l1] at h, fun _ _ _ _ r h => by simp [apogeeref11_Simple.l2] at h, fun _ _ _ _ _ _ _ _ _ _ _ _ _ r h => by simp [apogeeref11_Simple.j4] at h, fun _ _ _ _ _ _ _ _ _ _ _ _ _ r h => by simp [apogeeref11_Simple.j5] at h⟩
 | k + 1 => by
  obtain ⟨ih0, ih1, ih2, ih3, ih4, ih5⟩ := apogeeref11_Simple.mono_l k
  refine ⟨?_, ?_, ?_, ?_, ?_, ?_⟩
  ·intro y0 y1 y2
   unfold apogeeref11_Simple.j0
   have m0_ := @apogeeref10_Meet.mono
   have m1_ := @apogeeref10_On.mono
   exact bMo
  ·intro y0 y1 y2
   unfold apogeeref11_Simple.l0
   have m0_ := @apogeeref10_Meet.mono
   have m1_ := @apogeeref10_On.mono
   exact bMo
  ·intro y0 y1 y2
   unfold apogeeref11_Simple.l1
   have m0_ := @apogeeref10_Meet.mono
   have m1_ := @apogeeref10_On.mono
   exact bMo
  ·intro y0 y1 y2 y3
   unfold apogeeref11_Simple.l2
   have m0_ := @apogeeref10_Meet.mono
   have m1_ := @apogeeref10_On.mono
   exact bMo
  ·intro y0 y1 y2 y3 y4 y5 y6 y7 y8 y9 y10 y11 y12
   unfold apogeeref11_Simple.j4
   have m0_ := @apogeeref10_Meet.mono
   have m1_ := @apogeeref10_On.mono
   exact bMo
  ·intro y0 y1 y2 y3 y4 y5 y6 y7 y8 y9 y10 y11 y12
   unfold apogeeref11_Simple.j5
   have m0_ := @apogeeref10_Meet.mono
   have m1_ := @apogeeref10_On.mono
   exact bMo
theorem apogeeref11_Simple.mono : ∀ a0 k, LeO (apogeeref11_Simple.f k a0) (apogeeref11_Simple.f (k + 1) a0) := by
 intro a0 k
 obtain ⟨ih0, ih1, ih2, ih3, ih4, ih5⟩ := apogeeref11_Simple.mono_l k
 unfold apogeeref11_Simple.f
 have m0_ := @apogeeref10_Meet.mono
 have m1_ := @apogeeref10_On.mono
 exact bMo
def apogeeref11_Simple.T15 : Bool × List (List Nat × List Nat) := (true, [([], []), ([], []), ([0, 1], [0, 1]), ([2], [2]), ([], []), ([], []), ([4, 5], [4, 5]), ([], []), ([], []), ([7, 8], [7, 8]), ([9], [9]), ([], []), ([], []), ([11, 12, 6], [11, 12]), ([], []), ([], []), ([], []), ([], []), ([14, 3, 13, 0, 1, 2, 3, 14, 15, 16, 17], [3, 14]), ([15, 6, 18, 0, 1, 2, 3, 4, 5, 6, 14, 15, 16, 17, 18], [6, 15]), ([16, 10, 19, 0, 1, 2, 3, 4, 5, 6, 7, 8, 9, 10, 14, 15, 16, 17, 18, 19], [10, 16]), ([17, 13, 20, 0, 1, 2, 3, 4, 5, 6, 7, 8, 9, 10, 11, 12, 13, 14, 15, 16, 17, 18, 19, 20], [13, 17])])
def apogeeref11_Simple.B15 : List Nat := [0, 0, 3, 7, 0, 0, 48, 0, 0, 384, 896, 0, 0, 6256, 0, 0, 0, 0, 260223, 522367, 1048575, 2097151]
theorem apogeeref11_Simple.tab15 : rtab .any (opsOf Try.f50 15) = apogeeref11_Simple.T15 := by kernel_rfl
theorem apogeeref11_Simple.bits15 : waitsOk apogeeref11_Simple.T15.2 apogeeref11_Simple.B15 = true := by kernel_rfl
set_option maxHeartbeats 8000000 in
set_option maxRecDepth 100000 in
theorem apogeeref11_Simple.calls (k : Nat) (A0 : Option Addr) (c0 : Nat) (l0 : List (S28)) (r : Bool) (w : World) (hr0 : Kd.C k28 w A0 l0.length l0) (hc0 : l0.length ≤ c0) (h : apogeeref11_Simple.f k l0 = some r) :
  Calls Try.prog 50 #[.slice A0 l0.length c0] w fun e w' => e = .returned (.bool r) ∧ Below w.heap.size w w' := by
 have hu28 := Try.underlying28
 have HR0 := bA hr0
 have HC0 := bA hc0
 clear hr0 hc0
 have HB := bA (Below.refl w.heap.size w)
 have H : (if (l0.length : Int) < 3 then (apogeeref11_Simple.j0 k l0 (l0.length : Int) true) else (apogeeref11_Simple.j0 k l0 (l0.length : Int) (decide ((l0.length : Int) > 8)))) = some r := h
 clear h
 have HC2 := bA H
 clear H
 go_enter Try.func50, Try.ntmps50
 go_upto_region 2 with (fail)
 go_cut [18] (fun v18 wc => ∃ (kq : Nat) (x18_1 : Bool), v18 = .bool x18_1 ∧ Aside0 (apogeeref11_Simple.j0 kq l0 (l0.length : Int) x18_1 = some r) ∧ Aside0 (kq ≤ k) ∧ Aside0 (Below w.heap.size w wc))
 case first =>
  have H := HC2.out
  clear HC2
  by_cases c3 : (l0.length : Int) < 3
  rw [if_pos c3] at H
  have c3b0 : decide ((l0.length : Int) < 3) = true := decide_eq_true c3
  have c3b1 : decide (l0.length < 3) = true := decide_eq_true (by omega)
  clear c3
  (first | rw [c3b0] | (simp only [i64_w, i32_w]; rw [c3b0]) | skip)
  have H' := bA H
  clear H
  rotate_left
  rw [if_neg c3] at H
  have c3b0 : decide ((l0.length : Int) < 3) = false := decide_eq_false c3
  have c3b1 : decide (l0.length < 3) = false := decide_eq_false (by omega)
  clear c3
  (first | rw [c3b0] | (simp only [i64_w, i32_w]; rw [c3b0]) | skip)
  have H' := bA H
  clear H
  rotate_left
  all_goals go_wp2
  ·go_meet
   case rel => exact ⟨_, (true), bs, H', ⟨by first | omega | exact Nat.le_refl _⟩, ⟨bX⟩⟩
  go_meet
  case rel => exact ⟨_, (decide ((l0.length : Int) > 8)), bs, H', ⟨by first | omega | exact Nat.le_refl _⟩, ⟨bX⟩⟩
 clear HC2
 try clear p2
 try clear c3
 try clear c3b0
 try clear c3b1
 obtain ⟨kq, x18_1, rfl, HA, HJ1, HB⟩ := hcut
 cases kq with
 | zero => exact absurd HA.out (by simp [apogeeref11_Simple.j0])
 | succ kj1 =>
  have H := HA.out
  clear HA
  simp only [apogeeref11_Simple.j0] at H
  by_cases c4 : x18_1 = true
  ·subst c4
   rw [if_pos rfl] at H
   obtain rfl := Option.some.inj H
   go_wp2
   go_ret
   exact bF
  replace c4 := Bool.eq_false_iff.mpr c4
  subst c4
  rw [if_neg bn] at H
  have H' := bA H
  clear H
  go_wp2
  go_loopg [4] kj1 (fun kq v4 w' => ∃ (x4_2 : Int), v4 = .int .i64 x4_2 ∧ Aside0 (apogeeref11_Simple.l0 kq l0 (l0.length : Int) x4_2 = some r) ∧ Aside0 (kq ≤ kj1) ∧ Aside0 (Below w.heap.size w w'))
  case atStart => exact ⟨(0), bs, H', ⟨Nat.le_refl _⟩, ⟨bX⟩⟩
  clear H'
  try clear p2
  try clear c3
  try clear c3b0
  try clear c3b1
  try clear c4
  try clear p2
  obtain ⟨x4_2, rfl, HA, HK2, HB⟩ := hrel
  cases gk with
  | zero => exact absurd HA.out (by simp [apogeeref11_Simple.l0])
  | succ k2 =>
   have H := HA.out
   clear HA
   simp only [apogeeref11_Simple.l0] at H
   by_cases c5 : x4_2 < (l0.length : Int)
   ·rw [if_pos c5] at H
    have c5b0 : decide (x4_2 < (l0.length : Int)) = true := decide_eq_true c5
    clear c5
    by_cases c6 : 0 ≤ x4_2
    rw [if_pos c6] at H
    have c6b0 : decide (0 ≤ x4_2) = true := decide_eq_true c6
    clear c6
    by_cases c7 : x4_2 < (l0.length : Int)
    rw [if_pos c7] at H
    have c7b0 : decide (x4_2 < (l0.length : Int)) = true := decide_eq_true c7
    clear c7
    replace H := Option.bind_eq_some_iff.mp H
    obtain ⟨t481, A80, H⟩ := H
    have A8 := bA A80
    clear A80
    by_cases c9 : t481 = true
    subst c9
    rw [if_pos rfl] at H
    have H' := bA H
    clear H
    have p480 : 0 ≤ (x4_2 : Int) := bo
    have q480 : x4_2 < (l0.length : Int) := bo
    obtain ⟨ad480, e480, hx480_0, hx480_1⟩ := at_T28 HR0.out x4_2 p480 q480
    cases e480
    replace hx480_0 := bK hx480_0
    replace hx480_1 := bK hx480_1
    replace p480 := eq_true p480
    replace q480 := eq_true q480
    rotate_left
    replace c9 := Bool.eq_false_iff.mpr c9
    subst c9
    rw [if_neg bn] at H
    obtain rfl := Option.some.inj H
    have p480 : 0 ≤ (x4_2 : Int) := bo
    have q480 : x4_2 < (l0.length : Int) := bo
    obtain ⟨ad480, e480, hx480_0, hx480_1⟩ := at_T28 HR0.out x4_2 p480 q480
    cases e480
    replace hx480_0 := bK hx480_0
    replace hx480_1 := bK hx480_1
    replace p480 := eq_true p480
    replace q480 := eq_true q480
    rotate_left
    rw [if_neg c7] at H
    exact absurd H (by simp)
    rw [if_neg c6] at H
    exact absurd H (by simp)
    all_goals go_wp2_with (first | ((first | ((with_reducible refine gate_callee (f := 27) rfl ?_); refine bC (some 28) Try.func27 #[.agg #[.int .i64 ((rd_T28 l0 x4_2).f0), .int .i64 ((rd_T28 l0 x4_2).f1)]] ?_) | go_at_call 27); (with_reducible refine (apogeeref10_Right.calls ((rd_T28 l0 x4_2).f0) ((rd_T28 l0 x4_2).f1) true _ A8.out).mono ?_); rintro e wz0 ⟨rfl, hb⟩; (first | refine ⟨_, rfl, ?_⟩ | skip); replace HB := bA (bS hb); (try clear hb)) | ((first | ((with_reducible refine gate_callee (f := 27) rfl ?_); refine bC (some 28) Try.func27 #[.agg #[.int .i64 ((rd_T28 l0 x4_2).f0), .int .i64 ((rd_T28 l0 x4_2).f1)]] ?_) | go_at_call 27); (with_reducible refine (apogeeref10_Right.calls ((rd_T28 l0 x4_2).f0) ((rd_T28 l0 x4_2).f1) false _ A8.out).mono ?_); rintro e wz0 ⟨rfl, hb⟩; (first | refine ⟨_, rfl, ?_⟩ | skip); replace HB := bA (bS hb); (try clear hb)))
    ·go_roundg k2
     case measure => have := HJ1.out; have := HK2.out; omega
     case rel => exact ⟨(wrap64 (x4_2 + 1)), bs, H', ⟨by have := HJ1.out; have := HK2.out; omega⟩, ⟨bX⟩⟩
    go_ret
    exact bF
   rw [if_neg c5] at H
   have c5b0 : decide (x4_2 < (l0.length : Int)) = false := decide_eq_false c5
   clear c5
   have H' := bA H
   clear H
   go_wp2
   go_loopg [5] k2 (fun kq v5 w' => ∃ (x5_3 : Int), v5 = .int .i64 x5_3 ∧ Aside0 (apogeeref11_Simple.l1 kq l0 (l0.length : Int) x5_3 = some r) ∧ Aside0 (kq ≤ k2) ∧ Aside0 (Below w.heap.size w w'))
   case atStart => exact ⟨(0), bs, H', ⟨Nat.le_refl _⟩, ⟨bX⟩⟩
   clear H'
   try clear c2
   try clear p2
   try clear c3
   try clear c3b0
   try clear c3b1
   try clear c4
   try clear p4
   try clear q4
   try clear hx4
   try clear c5
   try clear c5b0
   try clear c6
   try clear c6b0
   try clear p6
   try clear c7
   try clear c7b0
   try clear c9
   try clear hx480_0
   try clear hx480_1
   try clear p2
   try clear p480
   try clear q480
   obtain ⟨x5_3, rfl, HA, HK3, HB⟩ := hrel
   cases gk with
   | zero => exact absurd HA.out (by simp [apogeeref11_Simple.l1])
   | succ k3 =>
    have H := HA.out
    clear HA
    simp only [apogeeref11_Simple.l1] at H
    by_cases c12 : x5_3 < (l0.length : Int)
    rotate_left
    ·rw [if_neg c12] at H
     have c12b0 : decide (x5_3 < (l0.length : Int)) = false := decide_eq_false c12
     clear c12
     obtain rfl := Option.some.inj H
     go_wp2
     go_ret
     exact bF
    rw [if_pos c12] at H
    have c12b0 : decide (x5_3 < (l0.length : Int)) = true := decide_eq_true c12
    clear c12
    have H' := bA H
    clear H
    go_wp2
    go_loopg [6] k3 (fun kq v6 w' => ∃ (x6_4 : Int), v6 = .int .i64 x6_4 ∧ Aside0 (apogeeref11_Simple.l2 kq l0 (l0.length : Int) x5_3 x6_4 = some r) ∧ Aside0 (kq ≤ k3) ∧ Aside0 (Below w.heap.size w w'))
    case atStart => exact ⟨(wrap64 (x5_3 + 1)), bs, H', ⟨Nat.le_refl _⟩, ⟨bX⟩⟩
    clear H'
    try clear c1
    try clear c2
    try clear p2
    try clear c3
    try clear c3b0
    try clear c3b1
    try clear c4
    try clear p4
    try clear q4
    try clear hx4
    try clear c5
    try clear c5b0
    try clear c6
    try clear c6b0
    try clear p6
    try clear c7
    try clear c7b0
    try clear c9
    try clear c12
    try clear c12b0
    try clear hx480_0
    try clear hx480_1
    try clear p2
    try clear p4
    try clear p480
    try clear p6
    try clear q4
    try clear q480
    obtain ⟨x6_4, rfl, HA, HK4, HB⟩ := hrel
    cases gk with
    | zero => exact absurd HA.out (by simp [apogeeref11_Simple.l2])
    | succ k4 =>
     have H := HA.out
     clear HA
     simp only [apogeeref11_Simple.l2] at H
     by_cases c13 : x6_4 < (l0.length : Int)
     rotate_left
     ·rw [if_neg c13] at H
      have c13b0 : decide (x6_4 < (l0.length : Int)) = false := decide_eq_false c13
      clear c13
      have H' := bA H
      clear H
      go_wp2
      go_roundg k4
      case measure => have := HJ1.out; have := HK2.out; have := HK3.out; have := HK4.out; omega
      case rel => exact ⟨(wrap64 (x5_3 + 1)), bs, H', ⟨by have := HJ1.out; have := HK2.out; have := HK3.out; have := HK4.out; omega⟩, ⟨bX⟩⟩
     rw [if_pos c13] at H
     have c13b0 : decide (x6_4 < (l0.length : Int)) = true := decide_eq_true c13
     clear c13
     by_cases c14 : 0 ≤ x5_3
     rotate_left
     ·rw [if_neg c14] at H
      exact absurd H (by simp)
     rw [if_pos c14] at H
     have c14b0 : decide (0 ≤ x5_3) = true := decide_eq_true c14
     clear c14
     by_cases c15 : x5_3 < (l0.length : Int)
     rotate_left
     ·rw [if_neg c15] at H
      exact absurd H (by simp)
     rw [if_pos c15] at H
     have c15b0 : decide (x5_3 < (l0.length : Int)) = true := decide_eq_true c15
     clear c15
     replace H := Option.bind_eq_some_iff.mp H
     obtain ⟨⟨t483, t484⟩, A160, H⟩ := H
     replace H : (if 0 ≤ x6_4 then (if x6_4 < (l0.length : Int) then ((apogeeref11_next.f l0 x6_4).bind fun bt486 => (apogeeref11_Simple.j4 k4 l0 (l0.length : Int) x5_3 x6_4 (((rd_T28 l0 x5_3).f0) == ((rd_T28 l0 x6_4).f0) && (((rd_T28 l0 x5_3).f1) == ((rd_T28 l0 x6_4).f1))) ((rd_T28 l0 x5_3).f0) ((rd_T28 l0 x5_3).f1) t483 t484 ((rd_T28 l0 x6_4).f0) ((rd_T28 l0 x6_4).f1) bt486.1 bt486.2)) else (none)) else (none)) = some r := H
     have A16 := bA A160
     clear A160
     by_cases c17 : 0 ≤ x6_4
     rotate_left
     ·rw [if_neg c17] at H
      exact absurd H (by simp)
     rw [if_pos c17] at H
     have c17b0 : decide (0 ≤ x6_4) = true := decide_eq_true c17
     clear c17
     by_cases c18 : x6_4 < (l0.length : Int)
     rotate_left
     ·rw [if_neg c18] at H
      exact absurd H (by simp)
     rw [if_pos c18] at H
     have c18b0 : decide (x6_4 < (l0.length : Int)) = true := decide_eq_true c18
     clear c18
     replace H := Option.bind_eq_some_iff.mp H
     obtain ⟨⟨t486, t487⟩, A190, H⟩ := H
     replace H : (apogeeref11_Simple.j4 k4 l0 (l0.length : Int) x5_3 x6_4 (((rd_T28 l0 x5_3).f0) == ((rd_T28 l0 x6_4).f0) && (((rd_T28 l0 x5_3).f1) == ((rd_T28 l0 x6_4).f1))) ((rd_T28 l0 x5_3).f0) ((rd_T28 l0 x5_3).f1) t483 t484 ((rd_T28 l0 x6_4).f0) ((rd_T28 l0 x6_4).f1) t486 t487) = some r := H
     have A19 := bA A190
     clear A190
     have HC20 := bA H
     clear H
     try go_wp2
     replace HB := bA (below_drew1 HB.out)
     have p482 : 0 ≤ (x5_3 : Int) := bo
     have q482 : x5_3 < (l0.length : Int) := bo
     obtain ⟨ad482, e482, hx482_0, hx482_1⟩ := at_T28 HR0.out x5_3 p482 q482
     have hw482_1 := hx482_1
     have hw482_0 := hx482_0
     cases e482
     replace hx482_0 := bK hx482_0
     replace hx482_1 := bK hx482_1
     replace p482 := eq_true p482
     replace q482 := eq_true q482
     have p485 : 0 ≤ (x6_4 : Int) := bo
     have q485 : x6_4 < (l0.length : Int) := bo
     obtain ⟨ad485, e485, hx485_0, hx485_1⟩ := at_T28 HR0.out x6_4 p485 q485
     have hw485_1 := hx485_1
     have hw485_0 := hx485_0
     obtain rfl : ad482 = ad485 := (by injection e485)
     replace hx485_0 := bK hx485_0
     replace hx485_1 := bK hx485_1
     replace p485 := eq_true p485
     replace q485 := eq_true q485
     refine start_ (n := 22) (S := fun w' => True) (ds := []) #[false,false,false,false,false,false,false,false,false,false,false,false,false,false,false,false,false,false,false,false,false,false] (by kernel_rfl) rfl rfl trivial (fun hHeld => ?_); refine with_tabW apogeeref11_Simple.tab15 apogeeref11_Simple.bits15 (fun HT_ HW_ => ?_)
     generalize wr.drew = w21 at HB hx482_0 hx482_1 hx485_0 hx485_1 hHeld ⊢
     refine bU (i := 0) (N := some 42) ?_
     refine bU (i := 1) (N := some 43) ?_
     refine bU (i := 4) (N := some 46) ?_
     refine bU (i := 5) (N := some 47) ?_
     refine bU (i := 7) (N := some 49) ?_
     refine bU (i := 8) (N := some 50) ?_
     refine bU (i := 11) (N := some 53) ?_
     refine bU (i := 12) (N := some 54) ?_
     refine inv_at [2, 3, 6, 9, 10, 13, 14, 15, 16, 17, 18, 19, 20, 21] (fun a0_ b a w' => ∃ (gb488 : Nat) (gb489 : Nat) (gb490 : Nat) (gb491 : Nat) (m14_ : Value) (m15_ : Value) (m16_ : Value) (m17_ : Value), a = putSel a0_ b [(2, 44, .pointer (some (ad482.add ((x5_3).toNat * 2)))), (3, 45, .agg #[.int .i64 ((rd_T28 l0 x5_3).f0), .int .i64 ((rd_T28 l0 x5_3).f1)]), (6, 48, .agg #[.int .i64 t483, .int .i64 t484]), (9, 51, .pointer (some (ad482.add ((x6_4).toNat * 2)))), (10, 52, .agg #[.int .i64 ((rd_T28 l0 x6_4).f0), .int .i64 ((rd_T28 l0 x6_4).f1)]), (13, 55, .agg #[.int .i64 t486, .int .i64 t487]), (14, 7, m14_), (15, 8, m15_), (16, 9, m16_), (17, 10, m17_)] ∧ (Below w.heap.size w w') ∧ (b 14 = true → b 15 = true → gb489 ≠ gb488) ∧ (b 14 = true → b 15 = true → gb488 ≠ gb489) ∧ (b 14 = true → b 16 = true → gb490 ≠ gb488) ∧ (b 14 = true → b 16 = true → gb488 ≠ gb490) ∧ (b 14 = true → b 17 = true → gb491 ≠ gb488) ∧ (b 14 = true → b 17 = true → gb488 ≠ gb491) ∧ (b 15 = true → b 16 = true → gb490 ≠ gb489) ∧ (b 15 = true → b 16 = true → gb489 ≠ gb490) ∧ (b 15 = true → b 17 = true → gb491 ≠ gb489) ∧ (b 15 = true → b 17 = true → gb489 ≠ gb491) ∧ (b 16 = true → b 17 = true → gb491 ≠ gb490) ∧ (b 16 = true → b 17 = true → gb490 ≠ gb491) ∧ (b 14 = true → b 18 = false → w'.heap[gb488]? = some (.cells #[.int .i64 0, .int .i64 0] 28 (0, 0))) ∧ (b 14 = true → w.heap.size ≤ gb488) ∧ (b 14 = true → w.heap.size ≤ gb488) ∧ (b 15 = true → b 19 = false → w'.heap[gb489]? = some (.cells #[.int .i64 0, .int .i64 0] 28 (0, 0))) ∧ (b 15 = true → w.heap.size ≤ gb489) ∧ (b 15 = true → w.heap.size ≤ gb489) ∧ (b 16 = true → b 20 = false → w'.heap[gb490]? = some (.cells #[.int .i64 0, .int .i64 0] 28 (0, 0))) ∧ (b 16 = true → w.heap.size ≤ gb490) ∧ (b 16 = true → w.heap.size ≤ gb490) ∧ (b 17 = true → b 21 = false → w'.heap[gb491]? = some (.cells #[.int .i64 0, .int .i64 0] 28 (0, 0))) ∧ (b 17 = true → w.heap.size ≤ gb491) ∧ (b 17 = true → w.heap.size ≤ gb491) ∧ (b 18 = true → w'.heap[gb488]? = some (.cells #[.int .i64 ((rd_T28 l0 x5_3).f0), .int .i64 ((rd_T28 l0 x5_3).f1)] 28 (0, 0))) ∧ (b 19 = true → w'.heap[gb489]? = some (.cells #[.int .i64 t483, .int .i64 t484] 28 (0, 0))) ∧ (b 20 = true → w'.heap[gb490]? = some (.cells #[.int .i64 ((rd_T28 l0 x6_4).f0), .int .i64 ((rd_T28 l0 x6_4).f1)] 28 (0, 0))) ∧ (b 21 = true → w'.heap[gb491]? = some (.cells #[.int .i64 t486, .int .i64 t487] 28 (0, 0))) ∧ (b 14 = true → (m14_ : Value) = .pointer (some ⟨gb488, 0, none⟩)) ∧ (b 15 = true → (m15_ : Value) = .pointer (some ⟨gb489, 0, none⟩)) ∧ (b 16 = true → (m16_ : Value) = .pointer (some ⟨gb490, 0, none⟩)) ∧ (b 17 = true → (m17_ : Value) = .pointer (some ⟨gb491, 0, none⟩))) HT_.out HW_.out (by kernel_rfl) (by kernel_rfl) ?_ ?_ ?_
     ·exact ⟨0, 0, 0, 0, .bool false, .bool false, .bool false, .bool false, by simp only [putSel, Bool.false_eq_true, if_false], HB.out, fun h_ => absurd h_ (by decide), fun h_ => absurd h_ (by decide), fun h_ => absurd h_ (by decide), fun h_ => absurd h_ (by decide), fun h_ => absurd h_ (by decide), fun h_ => absurd h_ (by decide), fun h_ => absurd h_ (by decide), fun h_ => absurd h_ (by decide), fun h_ => absurd h_ (by decide), fun h_ => absurd h_ (by decide), fun h_ => absurd h_ (by decide), fun h_ => absurd h_ (by decide), fun h_ => absurd h_ (by decide), fun h_ => absurd h_ (by decide), fun h_ => absurd h_ (by decide), fun h_ => absurd h_ (by decide), fun h_ => absurd h_ (by decide), fun h_ => absurd h_ (by decide), fun h_ => absurd h_ (by decide), fun h_ => absurd h_ (by decide), fun h_ => absurd h_ (by decide), fun h_ => absurd h_ (by decide), fun h_ => absurd h_ (by decide), fun h_ => absurd h_ (by decide), fun h_ => absurd h_ (by decide), fun h_ => absurd h_ (by decide), fun h_ => absurd h_ (by decide), fun h_ => absurd h_ (by decide), fun h_ => absurd h_ (by decide), fun h_ => absurd h_ (by decide), fun h_ => absurd h_ (by decide), fun h_ => absurd h_ (by decide)⟩
     ·skip
      clear HB
      refine steps_cons ?_ ?_
      ·rintro b a w' ⟨gb488, gb489, gb490, gb491, m14_, m15_, m16_, m17_, ha, Q_HB, Q_NB489_488, Q_NB488_489, Q_NB490_488, Q_NB488_490, Q_NB491_488, Q_NB488_491, Q_NB490_489, Q_NB489_490, Q_NB491_489, Q_NB489_491, Q_NB491_490, Q_NB490_491, Q_BK488, Q_GW488, Q_GE488, Q_BK489, Q_GW489, Q_GE489, Q_BK490, Q_GW490, Q_GE490, Q_BK491, Q_GW491, Q_GE491, Q_BK488_e18, Q_BK489_e19, Q_BK490_e20, Q_BK491_e21, Q_X14_, Q_X15_, Q_X16_, Q_X17_⟩ hb_ hon hoff
       refine ⟨_, rfl, fun K hK => ?_⟩
       have e42 : a.tmps[42]? = some (.slice (some ad482) l0.length c0) := by rw [ha]; exact (putSel_off rfl).trans rfl
       have e43 : a.tmps[43]? = some (.int .i64 x5_3) := by rw [ha]; exact (putSel_off rfl).trans rfl
       replace ha := bA ha
       have HB := bA Q_HB
       have hs0_ : w'.cell? (ad482.add ((x5_3).toNat * 2)) = some (.int .i64 ((rd_T28 l0 x5_3).f0)) := (bK hw482_0)
       have hs1_ : w'.cell? ⟨(ad482.add ((x5_3).toNat * 2)).block, (ad482.add ((x5_3).toNat * 2)).off + 1, none⟩ = some (.int .i64 ((rd_T28 l0 x5_3).f1)) := (bK hw482_1)
       refine value_ (w1 := w') (v := .pointer (some (ad482.add ((x5_3).toNat * 2)))) (by rfl) rfl ?_ ?_
       ·go_simp
        (try simp only [i64_w])
        try rfl
       refine hK.out _ _ ⟨gb488, gb489, gb490, gb491, m14_, m15_, m16_, m17_, (by rw [ha.out]; exact putSel_upk 0 hb_ rfl rfl rfl), Q_HB, Q_NB489_488, Q_NB488_489, Q_NB490_488, Q_NB488_490, Q_NB491_488, Q_NB488_491, Q_NB490_489, Q_NB489_490, Q_NB491_489, Q_NB489_491, Q_NB491_490, Q_NB490_491, Q_BK488, Q_GW488, Q_GE488, Q_BK489, Q_GW489, Q_GE489, Q_BK490, Q_GW490, Q_GE490, Q_BK491, Q_GW491, Q_GE491, fun h0_ => absurd ((hoff 18 (by kernel_rfl)).symm.trans h0_) (by decide), fun h0_ => absurd ((hoff 19 (by kernel_rfl)).symm.trans h0_) (by decide), fun h0_ => absurd ((hoff 20 (by kernel_rfl)).symm.trans h0_) (by decide), fun h0_ => absurd ((hoff 21 (by kernel_rfl)).symm.trans h0_) (by decide), Q_X14_, Q_X15_, Q_X16_, Q_X17_⟩
      refine steps_cons ?_ ?_
      ·rintro b a w' ⟨gb488, gb489, gb490, gb491, m14_, m15_, m16_, m17_, ha, Q_HB, Q_NB489_488, Q_NB488_489, Q_NB490_488, Q_NB488_490, Q_NB491_488, Q_NB488_491, Q_NB490_489, Q_NB489_490, Q_NB491_489, Q_NB489_491, Q_NB491_490, Q_NB490_491, Q_BK488, Q_GW488, Q_GE488, Q_BK489, Q_GW489, Q_GE489, Q_BK490, Q_GW490, Q_GE490, Q_BK491, Q_GW491, Q_GE491, Q_BK488_e18, Q_BK489_e19, Q_BK490_e20, Q_BK491_e21, Q_X14_, Q_X15_, Q_X16_, Q_X17_⟩ hb_ hon hoff
       refine ⟨_, rfl, fun K hK => ?_⟩
       have e44 : a.tmps[44]? = some (.pointer (some (ad482.add ((x5_3).toNat * 2)))) := by rw [ha]; exact putSel_on (e := (2, 44, .pointer (some (ad482.add ((x5_3).toNat * 2))))) 0 rfl rfl (hon 2 (by kernel_rfl)) rfl
       replace ha := bA ha
       have HB := bA Q_HB
       have hs0_ : w'.cell? (ad482.add ((x5_3).toNat * 2)) = some (.int .i64 ((rd_T28 l0 x5_3).f0)) := (bK hw482_0)
       have hs1_ : w'.cell? ⟨(ad482.add ((x5_3).toNat * 2)).block, (ad482.add ((x5_3).toNat * 2)).off + 1, none⟩ = some (.int .i64 ((rd_T28 l0 x5_3).f1)) := (bK hw482_1)
       refine value_ (w1 := w') (v := .agg #[.int .i64 ((rd_T28 l0 x5_3).f0), .int .i64 ((rd_T28 l0 x5_3).f1)]) (by rfl) rfl ?_ ?_
       ·go_simp
        (try simp only [i64_w])
        try rfl
       refine hK.out _ _ ⟨gb488, gb489, gb490, gb491, m14_, m15_, m16_, m17_, (by rw [ha.out]; exact putSel_upk 1 hb_ rfl rfl rfl), Q_HB, Q_NB489_488, Q_NB488_489, Q_NB490_488, Q_NB488_490, Q_NB491_488, Q_NB488_491, Q_NB490_489, Q_NB489_490, Q_NB491_489, Q_NB489_491, Q_NB491_490, Q_NB490_491, Q_BK488, Q_GW488, Q_GE488, Q_BK489, Q_GW489, Q_GE489, Q_BK490, Q_GW490, Q_GE490, Q_BK491, Q_GW491, Q_GE491, fun h0_ => absurd ((hoff 18 (by kernel_rfl)).symm.trans h0_) (by decide), fun h0_ => absurd ((hoff 19 (by kernel_rfl)).symm.trans h0_) (by decide), fun h0_ => absurd ((hoff 20 (by kernel_rfl)).symm.trans h0_) (by decide), fun h0_ => absurd ((hoff 21 (by kernel_rfl)).symm.trans h0_) (by decide), Q_X14_, Q_X15_, Q_X16_, Q_X17_⟩
      refine steps_cons ?_ ?_
      ·rintro b a w' ⟨gb488, gb489, gb490, gb491, m14_, m15_, m16_, m17_, ha, Q_HB, Q_NB489_488, Q_NB488_489, Q_NB490_488, Q_NB488_490, Q_NB491_488, Q_NB488_491, Q_NB490_489, Q_NB489_490, Q_NB491_489, Q_NB489_491, Q_NB491_490, Q_NB490_491, Q_BK488, Q_GW488, Q_GE488, Q_BK489, Q_GW489, Q_GE489, Q_BK490, Q_GW490, Q_GE490, Q_BK491, Q_GW491, Q_GE491, Q_BK488_e18, Q_BK489_e19, Q_BK490_e20, Q_BK491_e21, Q_X14_, Q_X15_, Q_X16_, Q_X17_⟩ hb_ hon hoff
       refine ⟨_, rfl, fun K hK => ?_⟩
       have e46 : a.tmps[46]? = some (.slice (some ad482) l0.length c0) := by rw [ha]; exact (putSel_off rfl).trans rfl
       have e47 : a.tmps[47]? = some (.int .i64 x5_3) := by rw [ha]; exact (putSel_off rfl).trans rfl
       replace ha := bA ha
       have HB := bA Q_HB
       refine goes_ Try.func62 (by kernel_rfl) rfl #[.slice (some ad482) l0.length c0, .int .i64 x5_3] (by rfl) rfl rfl (by first | (simp only [List.map_toArray, List.map_cons, List.map_nil, Act.eval, Array.getD_eq_getD_getElem?, Option.getD_some, e46, e47]; done) | (simp only [List.map_toArray, List.map_cons, List.map_nil, Act.eval, Array.getD_eq_getD_getElem?, Option.getD_some, e46, e47]; rfl)) ?_
       with_reducible refine (apogeeref11_next.calls _ _ l0 x5_3 t483 t484 _ ?side1 ?side2 A16.out).mono ?_
       (case side1 => exact bQ HR0)
       (case side2 => exact HC0.out)
       rintro e w22 ⟨rfl, hb⟩
       refine ⟨_, rfl, ?_⟩
       have n0_ := bA (bS hb)
       have z_BK488 := fun (h0_ : b 14 = true) (h1_ : b 18 = false) => (show w22.heap[gb488]? = some (.cells #[.int .i64 0, .int .i64 0] 28 (0, 0)) from by first | exact (blk_below (g := gb488) (o := .cells #[.int .i64 0, .int .i64 0] 28 (0, 0)) (by (with_reducible repeat (first | refine blk_drewN ?_ _ | refine blk_drew ?_ | refine blk_alloc ?_ _)); exact (Q_BK488 h0_ h1_)) hb))
       have z_BK489 := fun (h0_ : b 15 = true) (h1_ : b 19 = false) => (show w22.heap[gb489]? = some (.cells #[.int .i64 0, .int .i64 0] 28 (0, 0)) from by first | exact (blk_below (g := gb489) (o := .cells #[.int .i64 0, .int .i64 0] 28 (0, 0)) (by (with_reducible repeat (first | refine blk_drewN ?_ _ | refine blk_drew ?_ | refine blk_alloc ?_ _)); exact (Q_BK489 h0_ h1_)) hb))
       have z_BK490 := fun (h0_ : b 16 = true) (h1_ : b 20 = false) => (show w22.heap[gb490]? = some (.cells #[.int .i64 0, .int .i64 0] 28 (0, 0)) from by first | exact (blk_below (g := gb490) (o := .cells #[.int .i64 0, .int .i64 0] 28 (0, 0)) (by (with_reducible repeat (first | refine blk_drewN ?_ _ | refine blk_drew ?_ | refine blk_alloc ?_ _)); exact (Q_BK490 h0_ h1_)) hb))
       have z_BK491 := fun (h0_ : b 17 = true) (h1_ : b 21 = false) => (show w22.heap[gb491]? = some (.cells #[.int .i64 0, .int .i64 0] 28 (0, 0)) from by first | exact (blk_below (g := gb491) (o := .cells #[.int .i64 0, .int .i64 0] 28 (0, 0)) (by (with_reducible repeat (first | refine blk_drewN ?_ _ | refine blk_drew ?_ | refine blk_alloc ?_ _)); exact (Q_BK491 h0_ h1_)) hb))
       clear HB
       have HB := n0_
       clear n0_
       (try clear hb)
       refine hK.out _ _ ⟨gb488, gb489, gb490, gb491, m14_, m15_, m16_, m17_, (by rw [ha.out]; exact putSel_upk 2 hb_ rfl rfl rfl), bX, Q_NB489_488, Q_NB488_489, Q_NB490_488, Q_NB488_490, Q_NB491_488, Q_NB488_491, Q_NB490_489, Q_NB489_490, Q_NB491_489, Q_NB489_491, Q_NB491_490, Q_NB490_491, z_BK488, Q_GW488, Q_GE488, z_BK489, Q_GW489, Q_GE489, z_BK490, Q_GW490, Q_GE490, z_BK491, Q_GW491, Q_GE491, fun h0_ => absurd ((hoff 18 (by kernel_rfl)).symm.trans h0_) (by decide), fun h0_ => absurd ((hoff 19 (by kernel_rfl)).symm.trans h0_) (by decide), fun h0_ => absurd ((hoff 20 (by kernel_rfl)).symm.trans h0_) (by decide), fun h0_ => absurd ((hoff 21 (by kernel_rfl)).symm.trans h0_) (by decide), Q_X14_, Q_X15_, Q_X16_, Q_X17_⟩
      refine steps_cons ?_ ?_
      ·rintro b a w' ⟨gb488, gb489, gb490, gb491, m14_, m15_, m16_, m17_, ha, Q_HB, Q_NB489_488, Q_NB488_489, Q_NB490_488, Q_NB488_490, Q_NB491_488, Q_NB488_491, Q_NB490_489, Q_NB489_490, Q_NB491_489, Q_NB489_491, Q_NB491_490, Q_NB490_491, Q_BK488, Q_GW488, Q_GE488, Q_BK489, Q_GW489, Q_GE489, Q_BK490, Q_GW490, Q_GE490, Q_BK491, Q_GW491, Q_GE491, Q_BK488_e18, Q_BK489_e19, Q_BK490_e20, Q_BK491_e21, Q_X14_, Q_X15_, Q_X16_, Q_X17_⟩ hb_ hon hoff
       refine ⟨_, rfl, fun K hK => ?_⟩
       have e49 : a.tmps[49]? = some (.slice (some ad482) l0.length c0) := by rw [ha]; exact (putSel_off rfl).trans rfl
       have e50 : a.tmps[50]? = some (.int .i64 x6_4) := by rw [ha]; exact (putSel_off rfl).trans rfl
       replace ha := bA ha
       have HB := bA Q_HB
       have hs2_ : w'.cell? (ad482.add ((x6_4).toNat * 2)) = some (.int .i64 ((rd_T28 l0 x6_4).f0)) := (bK hw485_0)
       have hs3_ : w'.cell? ⟨(ad482.add ((x6_4).toNat * 2)).block, (ad482.add ((x6_4).toNat * 2)).off + 1, none⟩ = some (.int .i64 ((rd_T28 l0 x6_4).f1)) := (bK hw485_1)
       refine value_ (w1 := w') (v := .pointer (some (ad482.add ((x6_4).toNat * 2)))) (by rfl) rfl ?_ ?_
       ·go_simp
        (try simp only [i64_w])
        try rfl
       refine hK.out _ _ ⟨gb488, gb489, gb490, gb491, m14_, m15_, m16_, m17_, (by rw [ha.out]; exact putSel_upk 3 hb_ rfl rfl rfl), Q_HB, Q_NB489_488, Q_NB488_489, Q_NB490_488, Q_NB488_490, Q_NB491_488, Q_NB488_491, Q_NB490_489, Q_NB489_490, Q_NB491_489, Q_NB489_491, Q_NB491_490, Q_NB490_491, Q_BK488, Q_GW488, Q_GE488, Q_BK489, Q_GW489, Q_GE489, Q_BK490, Q_GW490, Q_GE490, Q_BK491, Q_GW491, Q_GE491, Q_BK488_e18, Q_BK489_e19, fun h0_ => absurd ((hoff 20 (by kernel_rfl)).symm.trans h0_) (by decide), fun h0_ => absurd ((hoff 21 (by kernel_rfl)).symm.trans h0_) (by decide), Q_X14_, Q_X15_, Q_X16_, Q_X17_⟩
      refine steps_cons ?_ ?_
      ·rintro b a w' ⟨gb488, gb489, gb490, gb491, m14_, m15_, m16_, m17_, ha, Q_HB, Q_NB489_488, Q_NB488_489, Q_NB490_488, Q_NB488_490, Q_NB491_488, Q_NB488_491, Q_NB490_489, Q_NB489_490, Q_NB491_489, Q_NB489_491, Q_NB491_490, Q_NB490_491, Q_BK488, Q_GW488, Q_GE488, Q_BK489, Q_GW489, Q_GE489, Q_BK490, Q_GW490, Q_GE490, Q_BK491, Q_GW491, Q_GE491, Q_BK488_e18, Q_BK489_e19, Q_BK490_e20, Q_BK491_e21, Q_X14_, Q_X15_, Q_X16_, Q_X17_⟩ hb_ hon hoff
       refine ⟨_, rfl, fun K hK => ?_⟩
       have e51 : a.tmps[51]? = some (.pointer (some (ad482.add ((x6_4).toNat * 2)))) := by rw [ha]; exact putSel_on (e := (9, 51, .pointer (some (ad482.add ((x6_4).toNat * 2))))) 3 rfl rfl (hon 9 (by kernel_rfl)) rfl
       replace ha := bA ha
       have HB := bA Q_HB
       have hs2_ : w'.cell? (ad482.add ((x6_4).toNat * 2)) = some (.int .i64 ((rd_T28 l0 x6_4).f0)) := (bK hw485_0)
       have hs3_ : w'.cell? ⟨(ad482.add ((x6_4).toNat * 2)).block, (ad482.add ((x6_4).toNat * 2)).off + 1, none⟩ = some (.int .i64 ((rd_T28 l0 x6_4).f1)) := (bK hw485_1)
       refine value_ (w1 := w') (v := .agg #[.int .i64 ((rd_T28 l0 x6_4).f0), .int .i64 ((rd_T28 l0 x6_4).f1)]) (by rfl) rfl ?_ ?_
       ·go_simp
        (try simp only [i64_w])
        try rfl
       refine hK.out _ _ ⟨gb488, gb489, gb490, gb491, m14_, m15_, m16_, m17_, (by rw [ha.out]; exact putSel_upk 4 hb_ rfl rfl rfl), Q_HB, Q_NB489_488, Q_NB488_489, Q_NB490_488, Q_NB488_490, Q_NB491_488, Q_NB488_491, Q_NB490_489, Q_NB489_490, Q_NB491_489, Q_NB489_491, Q_NB491_490, Q_NB490_491, Q_BK488, Q_GW488, Q_GE488, Q_BK489, Q_GW489, Q_GE489, Q_BK490, Q_GW490, Q_GE490, Q_BK491, Q_GW491, Q_GE491, Q_BK488_e18, Q_BK489_e19, fun h0_ => absurd ((hoff 20 (by kernel_rfl)).symm.trans h0_) (by decide), fun h0_ => absurd ((hoff 21 (by kernel_rfl)).symm.trans h0_) (by decide), Q_X14_, Q_X15_, Q_X16_, Q_X17_⟩
      refine steps_cons ?_ ?_
      ·rintro b a w' ⟨gb488, gb489, gb490, gb491, m14_, m15_, m16_, m17_, ha, Q_HB, Q_NB489_488, Q_NB488_489, Q_NB490_488, Q_NB488_490, Q_NB491_488, Q_NB488_491, Q_NB490_489, Q_NB489_490, Q_NB491_489, Q_NB489_491, Q_NB491_490, Q_NB490_491, Q_BK488, Q_GW488, Q_GE488, Q_BK489, Q_GW489, Q_GE489, Q_BK490, Q_GW490, Q_GE490, Q_BK491, Q_GW491, Q_GE491, Q_BK488_e18, Q_BK489_e19, Q_BK490_e20, Q_BK491_e21, Q_X14_, Q_X15_, Q_X16_, Q_X17_⟩ hb_ hon hoff
       refine ⟨_, rfl, fun K hK => ?_⟩
       have e53 : a.tmps[53]? = some (.slice (some ad482) l0.length c0) := by rw [ha]; exact (putSel_off rfl).trans rfl
       have e54 : a.tmps[54]? = some (.int .i64 x6_4) := by rw [ha]; exact (putSel_off rfl).trans rfl
       replace ha := bA ha
       have HB := bA Q_HB
       refine goes_ Try.func62 (by kernel_rfl) rfl #[.slice (some ad482) l0.length c0, .int .i64 x6_4] (by rfl) rfl rfl (by first | (simp only [List.map_toArray, List.map_cons, List.map_nil, Act.eval, Array.getD_eq_getD_getElem?, Option.getD_some, e53, e54]; done) | (simp only [List.map_toArray, List.map_cons, List.map_nil, Act.eval, Array.getD_eq_getD_getElem?, Option.getD_some, e53, e54]; rfl)) ?_
       with_reducible refine (apogeeref11_next.calls _ _ l0 x6_4 t486 t487 _ ?side1 ?side2 A19.out).mono ?_
       (case side1 => exact bQ HR0)
       (case side2 => exact HC0.out)
       rintro e w24 ⟨rfl, hb⟩
       refine ⟨_, rfl, ?_⟩
       have n0_ := bA (bS hb)
       have z_BK488 := fun (h0_ : b 14 = true) (h1_ : b 18 = false) => (show w24.heap[gb488]? = some (.cells #[.int .i64 0, .int .i64 0] 28 (0, 0)) from by first | exact (blk_below (g := gb488) (o := .cells #[.int .i64 0, .int .i64 0] 28 (0, 0)) (by (with_reducible repeat (first | refine blk_drewN ?_ _ | refine blk_drew ?_ | refine blk_alloc ?_ _)); exact (Q_BK488 h0_ h1_)) hb))
       have z_BK489 := fun (h0_ : b 15 = true) (h1_ : b 19 = false) => (show w24.heap[gb489]? = some (.cells #[.int .i64 0, .int .i64 0] 28 (0, 0)) from by first | exact (blk_below (g := gb489) (o := .cells #[.int .i64 0, .int .i64 0] 28 (0, 0)) (by (with_reducible repeat (first | refine blk_drewN ?_ _ | refine blk_drew ?_ | refine blk_alloc ?_ _)); exact (Q_BK489 h0_ h1_)) hb))
       have z_BK490 := fun (h0_ : b 16 = true) (h1_ : b 20 = false) => (show w24.heap[gb490]? = some (.cells #[.int .i64 0, .int .i64 0] 28 (0, 0)) from by first | exact (blk_below (g := gb490) (o := .cells #[.int .i64 0, .int .i64 0] 28 (0, 0)) (by (with_reducible repeat (first | refine blk_drewN ?_ _ | refine blk_drew ?_ | refine blk_alloc ?_ _)); exact (Q_BK490 h0_ h1_)) hb))
       have z_BK491 := fun (h0_ : b 17 = true) (h1_ : b 21 = false) => (show w24.heap[gb491]? = some (.cells #[.int .i64 0, .int .i64 0] 28 (0, 0)) from by first | exact (blk_below (g := gb491) (o := .cells #[.int .i64 0, .int .i64 0] 28 (0, 0)) (by (with_reducible repeat (first | refine blk_drewN ?_ _ | refine blk_drew ?_ | refine blk_alloc ?_ _)); exact (Q_BK491 h0_ h1_)) hb))
       clear HB
       have HB := n0_
       clear n0_
       (try clear hb)
       refine hK.out _ _ ⟨gb488, gb489, gb490, gb491, m14_, m15_, m16_, m17_, (by rw [ha.out]; exact putSel_upk 5 hb_ rfl rfl rfl), bX, Q_NB489_488, Q_NB488_489, Q_NB490_488, Q_NB488_490, Q_NB491_488, Q_NB488_491, Q_NB490_489, Q_NB489_490, Q_NB491_489, Q_NB489_491, Q_NB491_490, Q_NB490_491, z_BK488, Q_GW488, Q_GE488, z_BK489, Q_GW489, Q_GE489, z_BK490, Q_GW490, Q_GE490, z_BK491, Q_GW491, Q_GE491, fun h0_ => absurd ((hoff 18 (by kernel_rfl)).symm.trans h0_) (by decide), fun h0_ => absurd ((hoff 19 (by kernel_rfl)).symm.trans h0_) (by decide), fun h0_ => absurd ((hoff 20 (by kernel_rfl)).symm.trans h0_) (by decide), fun h0_ => absurd ((hoff 21 (by kernel_rfl)).symm.trans h0_) (by decide), Q_X14_, Q_X15_, Q_X16_, Q_X17_⟩
      refine steps_cons ?_ ?_
      ·rintro b a w' ⟨gb488, gb489, gb490, gb491, m14_, m15_, m16_, m17_, ha, Q_HB, Q_NB489_488, Q_NB488_489, Q_NB490_488, Q_NB488_490, Q_NB491_488, Q_NB488_491, Q_NB490_489, Q_NB489_490, Q_NB491_489, Q_NB489_491, Q_NB491_490, Q_NB490_491, Q_BK488, Q_GW488, Q_GE488, Q_BK489, Q_GW489, Q_GE489, Q_BK490, Q_GW490, Q_GE490, Q_BK491, Q_GW491, Q_GE491, Q_BK488_e18, Q_BK489_e19, Q_BK490_e20, Q_BK491_e21, Q_X14_, Q_X15_, Q_X16_, Q_X17_⟩ hb_ hon hoff
       refine ⟨_, rfl, fun K hK => ?_⟩
       replace ha := bA ha
       have HB := bA Q_HB
       refine bT (N := 7) (cs := #[.int .i64 0, .int .i64 0]) (t := 28) ?_
       intro gb488 hg w22 hbox hb
       have n0_ := bA (bS hb)
       have n1_ := bA (hbox)
       have n2_ := bA (bZ hg)
       have n3_ := bA (bZ hg)
       have z_NB489_488 := fun (h0_ : up b 14 14 = true) (h1_ : up b 14 15 = true) => (show gb489 ≠ gb488 from (by rw [hg]; exact Nat.ne_of_lt ((Bool.eq_false_or_eq_true _).elim (fun q_ => blk_lt (Q_BK489_e19 q_)) (fun q_ => blk_lt (Q_BK489 h1_ q_)))))
       have z_NB488_489 := fun (h0_ : up b 14 14 = true) (h1_ : up b 14 15 = true) => (show gb488 ≠ gb489 from (by rw [hg]; exact Nat.ne_of_gt ((Bool.eq_false_or_eq_true _).elim (fun q_ => blk_lt (Q_BK489_e19 q_)) (fun q_ => blk_lt (Q_BK489 h1_ q_)))))
       have z_NB490_488 := fun (h0_ : up b 14 14 = true) (h1_ : up b 14 16 = true) => (show gb490 ≠ gb488 from (by rw [hg]; exact Nat.ne_of_lt ((Bool.eq_false_or_eq_true _).elim (fun q_ => blk_lt (Q_BK490_e20 q_)) (fun q_ => blk_lt (Q_BK490 h1_ q_)))))
       have z_NB488_490 := fun (h0_ : up b 14 14 = true) (h1_ : up b 14 16 = true) => (show gb488 ≠ gb490 from (by rw [hg]; exact Nat.ne_of_gt ((Bool.eq_false_or_eq_true _).elim (fun q_ => blk_lt (Q_BK490_e20 q_)) (fun q_ => blk_lt (Q_BK490 h1_ q_)))))
       have z_NB491_488 := fun (h0_ : up b 14 14 = true) (h1_ : up b 14 17 = true) => (show gb491 ≠ gb488 from (by rw [hg]; exact Nat.ne_of_lt ((Bool.eq_false_or_eq_true _).elim (fun q_ => blk_lt (Q_BK491_e21 q_)) (fun q_ => blk_lt (Q_BK491 h1_ q_)))))
       have z_NB488_491 := fun (h0_ : up b 14 14 = true) (h1_ : up b 14 17 = true) => (show gb488 ≠ gb491 from (by rw [hg]; exact Nat.ne_of_gt ((Bool.eq_false_or_eq_true _).elim (fun q_ => blk_lt (Q_BK491_e21 q_)) (fun q_ => blk_lt (Q_BK491 h1_ q_)))))
       have z_BK489 := fun (h0_ : b 15 = true) (h1_ : b 19 = false) => (show w22.heap[gb489]? = some (.cells #[.int .i64 0, .int .i64 0] 28 (0, 0)) from by first | exact (blk_below (g := gb489) (o := .cells #[.int .i64 0, .int .i64 0] 28 (0, 0)) (by (with_reducible repeat (first | refine blk_drewN ?_ _ | refine blk_drew ?_ | refine blk_alloc ?_ _)); exact (Q_BK489 h0_ h1_)) hb))
       have z_BK490 := fun (h0_ : b 16 = true) (h1_ : b 20 = false) => (show w22.heap[gb490]? = some (.cells #[.int .i64 0, .int .i64 0] 28 (0, 0)) from by first | exact (blk_below (g := gb490) (o := .cells #[.int .i64 0, .int .i64 0] 28 (0, 0)) (by (with_reducible repeat (first | refine blk_drewN ?_ _ | refine blk_drew ?_ | refine blk_alloc ?_ _)); exact (Q_BK490 h0_ h1_)) hb))
       have z_BK491 := fun (h0_ : b 17 = true) (h1_ : b 21 = false) => (show w22.heap[gb491]? = some (.cells #[.int .i64 0, .int .i64 0] 28 (0, 0)) from by first | exact (blk_below (g := gb491) (o := .cells #[.int .i64 0, .int .i64 0] 28 (0, 0)) (by (with_reducible repeat (first | refine blk_drewN ?_ _ | refine blk_drew ?_ | refine blk_alloc ?_ _)); exact (Q_BK491 h0_ h1_)) hb))
       clear HB
       have HB := n0_
       have BK488 := n1_
       have GW488 := n2_
       have GE488 := n3_
       clear n0_ n1_ n2_ n3_
       clear hb hbox hg
       refine hK.out _ _ ⟨gb488, gb489, gb490, gb491, (.pointer (some ⟨gb488, 0, none⟩)), m15_, m16_, m17_, (by rw [ha.out]; exact putSel_upk 6 hb_ rfl rfl rfl), bX, z_NB489_488, z_NB488_489, z_NB490_488, z_NB488_490, z_NB491_488, z_NB488_491, Q_NB490_489, Q_NB489_490, Q_NB491_489, Q_NB489_491, Q_NB491_490, Q_NB490_491, fun _ _ => (bP BK488), fun _ => GW488.out, fun _ => GE488.out, z_BK489, Q_GW489, Q_GE489, z_BK490, Q_GW490, Q_GE490, z_BK491, Q_GW491, Q_GE491, fun h0_ => absurd ((hoff 18 (by kernel_rfl)).symm.trans h0_) (by decide), fun h0_ => absurd ((hoff 19 (by kernel_rfl)).symm.trans h0_) (by decide), fun h0_ => absurd ((hoff 20 (by kernel_rfl)).symm.trans h0_) (by decide), fun h0_ => absurd ((hoff 21 (by kernel_rfl)).symm.trans h0_) (by decide), fun _ => rfl, Q_X15_, Q_X16_, Q_X17_⟩
      refine steps_cons ?_ ?_
      ·rintro b a w' ⟨gb488, gb489, gb490, gb491, m14_, m15_, m16_, m17_, ha, Q_HB, Q_NB489_488, Q_NB488_489, Q_NB490_488, Q_NB488_490, Q_NB491_488, Q_NB488_491, Q_NB490_489, Q_NB489_490, Q_NB491_489, Q_NB489_491, Q_NB491_490, Q_NB490_491, Q_BK488, Q_GW488, Q_GE488, Q_BK489, Q_GW489, Q_GE489, Q_BK490, Q_GW490, Q_GE490, Q_BK491, Q_GW491, Q_GE491, Q_BK488_e18, Q_BK489_e19, Q_BK490_e20, Q_BK491_e21, Q_X14_, Q_X15_, Q_X16_, Q_X17_⟩ hb_ hon hoff
       refine ⟨_, rfl, fun K hK => ?_⟩
       replace ha := bA ha
       have HB := bA Q_HB
       refine bT (N := 8) (cs := #[.int .i64 0, .int .i64 0]) (t := 28) ?_
       intro gb489 hg w22 hbox hb
       have n0_ := bA (bS hb)
       have n1_ := bA (hbox)
       have n2_ := bA (bZ hg)
       have n3_ := bA (bZ hg)
       have z_NB489_488 := fun (h0_ : up b 15 14 = true) (h1_ : up b 15 15 = true) => (show gb489 ≠ gb488 from (by rw [hg]; exact Nat.ne_of_gt ((Bool.eq_false_or_eq_true _).elim (fun q_ => blk_lt (Q_BK488_e18 q_)) (fun q_ => blk_lt (Q_BK488 h0_ q_)))))
       have z_NB488_489 := fun (h0_ : up b 15 14 = true) (h1_ : up b 15 15 = true) => (show gb488 ≠ gb489 from (by rw [hg]; exact Nat.ne_of_lt ((Bool.eq_false_or_eq_true _).elim (fun q_ => blk_lt (Q_BK488_e18 q_)) (fun q_ => blk_lt (Q_BK488 h0_ q_)))))
       have z_NB490_489 := fun (h0_ : up b 15 15 = true) (h1_ : up b 15 16 = true) => (show gb490 ≠ gb489 from (by rw [hg]; exact Nat.ne_of_lt ((Bool.eq_false_or_eq_true _).elim (fun q_ => blk_lt (Q_BK490_e20 q_)) (fun q_ => blk_lt (Q_BK490 h1_ q_)))))
       have z_NB489_490 := fun (h0_ : up b 15 15 = true) (h1_ : up b 15 16 = true) => (show gb489 ≠ gb490 from (by rw [hg]; exact Nat.ne_of_gt ((Bool.eq_false_or_eq_true _).elim (fun q_ => blk_lt (Q_BK490_e20 q_)) (fun q_ => blk_lt (Q_BK490 h1_ q_)))))
       have z_NB491_489 := fun (h0_ : up b 15 15 = true) (h1_ : up b 15 17 = true) => (show gb491 ≠ gb489 from (by rw [hg]; exact Nat.ne_of_lt ((Bool.eq_false_or_eq_true _).elim (fun q_ => blk_lt (Q_BK491_e21 q_)) (fun q_ => blk_lt (Q_BK491 h1_ q_)))))
       have z_NB489_491 := fun (h0_ : up b 15 15 = true) (h1_ : up b 15 17 = true) => (show gb489 ≠ gb491 from (by rw [hg]; exact Nat.ne_of_gt ((Bool.eq_false_or_eq_true _).elim (fun q_ => blk_lt (Q_BK491_e21 q_)) (fun q_ => blk_lt (Q_BK491 h1_ q_)))))
       have z_BK488 := fun (h0_ : b 14 = true) (h1_ : b 18 = false) => (show w22.heap[gb488]? = some (.cells #[.int .i64 0, .int .i64 0] 28 (0, 0)) from by first | exact (blk_below (g := gb488) (o := .cells #[.int .i64 0, .int .i64 0] 28 (0, 0)) (by (with_reducible repeat (first | refine blk_drewN ?_ _ | refine blk_drew ?_ | refine blk_alloc ?_ _)); exact (Q_BK488 h0_ h1_)) hb))
       have z_BK490 := fun (h0_ : b 16 = true) (h1_ : b 20 = false) => (show w22.heap[gb490]? = some (.cells #[.int .i64 0, .int .i64 0] 28 (0, 0)) from by first | exact (blk_below (g := gb490) (o := .cells #[.int .i64 0, .int .i64 0] 28 (0, 0)) (by (with_reducible repeat (first | refine blk_drewN ?_ _ | refine blk_drew ?_ | refine blk_alloc ?_ _)); exact (Q_BK490 h0_ h1_)) hb))
       have z_BK491 := fun (h0_ : b 17 = true) (h1_ : b 21 = false) => (show w22.heap[gb491]? = some (.cells #[.int .i64 0, .int .i64 0] 28 (0, 0)) from by first | exact (blk_below (g := gb491) (o := .cells #[.int .i64 0, .int .i64 0] 28 (0, 0)) (by (with_reducible repeat (first | refine blk_drewN ?_ _ | refine blk_drew ?_ | refine blk_alloc ?_ _)); exact (Q_BK491 h0_ h1_)) hb))
       clear HB
       have HB := n0_
       have BK489 := n1_
       have GW489 := n2_
       have GE489 := n3_
       clear n0_ n1_ n2_ n3_
       clear hb hbox hg
       refine hK.out _ _ ⟨gb488, gb489, gb490, gb491, m14_, (.pointer (some ⟨gb489, 0, none⟩)), m16_, m17_, (by rw [ha.out]; exact putSel_upk 7 hb_ rfl rfl rfl), bX, z_NB489_488, z_NB488_489, Q_NB490_488, Q_NB488_490, Q_NB491_488, Q_NB488_491, z_NB490_489, z_NB489_490, z_NB491_489, z_NB489_491, Q_NB491_490, Q_NB490_491, z_BK488, Q_GW488, Q_GE488, fun _ _ => (bP BK489), fun _ => GW489.out, fun _ => GE489.out, z_BK490, Q_GW490, Q_GE490, z_BK491, Q_GW491, Q_GE491, fun h0_ => absurd ((hoff 18 (by kernel_rfl)).symm.trans h0_) (by decide), fun h0_ => absurd ((hoff 19 (by kernel_rfl)).symm.trans h0_) (by decide), fun h0_ => absurd ((hoff 20 (by kernel_rfl)).symm.trans h0_) (by decide), fun h0_ => absurd ((hoff 21 (by kernel_rfl)).symm.trans h0_) (by decide), Q_X14_, fun _ => rfl, Q_X16_, Q_X17_⟩
      refine steps_cons ?_ ?_
      ·rintro b a w' ⟨gb488, gb489, gb490, gb491, m14_, m15_, m16_, m17_, ha, Q_HB, Q_NB489_488, Q_NB488_489, Q_NB490_488, Q_NB488_490, Q_NB491_488, Q_NB488_491, Q_NB490_489, Q_NB489_490, Q_NB491_489, Q_NB489_491, Q_NB491_490, Q_NB490_491, Q_BK488, Q_GW488, Q_GE488, Q_BK489, Q_GW489, Q_GE489, Q_BK490, Q_GW490, Q_GE490, Q_BK491, Q_GW491, Q_GE491, Q_BK488_e18, Q_BK489_e19, Q_BK490_e20, Q_BK491_e21, Q_X14_, Q_X15_, Q_X16_, Q_X17_⟩ hb_ hon hoff
       refine ⟨_, rfl, fun K hK => ?_⟩
       replace ha := bA ha
       have HB := bA Q_HB
       refine bT (N := 9) (cs := #[.int .i64 0, .int .i64 0]) (t := 28) ?_
       intro gb490 hg w22 hbox hb
       have n0_ := bA (bS hb)
       have n1_ := bA (hbox)
       have n2_ := bA (bZ hg)
       have n3_ := bA (bZ hg)
       have z_NB490_488 := fun (h0_ : up b 16 14 = true) (h1_ : up b 16 16 = true) => (show gb490 ≠ gb488 from (by rw [hg]; exact Nat.ne_of_gt ((Bool.eq_false_or_eq_true _).elim (fun q_ => blk_lt (Q_BK488_e18 q_)) (fun q_ => blk_lt (Q_BK488 h0_ q_)))))
       have z_NB488_490 := fun (h0_ : up b 16 14 = true) (h1_ : up b 16 16 = true) => (show gb488 ≠ gb490 from (by rw [hg]; exact Nat.ne_of_lt ((Bool.eq_false_or_eq_true _).elim (fun q_ => blk_lt (Q_BK488_e18 q_)) (fun q_ => blk_lt (Q_BK488 h0_ q_)))))
       have z_NB490_489 := fun (h0_ : up b 16 15 = true) (h1_ : up b 16 16 = true) => (show gb490 ≠ gb489 from (by rw [hg]; exact Nat.ne_of_gt ((Bool.eq_false_or_eq_true _).elim (fun q_ => blk_lt (Q_BK489_e19 q_)) (fun q_ => blk_lt (Q_BK489 h0_ q_)))))
       have z_NB489_490 := fun (h0_ : up b 16 15 = true) (h1_ : up b 16 16 = true) => (show gb489 ≠ gb490 from (by rw [hg]; exact Nat.ne_of_lt ((Bool.eq_false_or_eq_true _).elim (fun q_ => blk_lt (Q_BK489_e19 q_)) (fun q_ => blk_lt (Q_BK489 h0_ q_)))))
       have z_NB491_490 := fun (h0_ : up b 16 16 = true) (h1_ : up b 16 17 = true) => (show gb491 ≠ gb490 from (by rw [hg]; exact Nat.ne_of_lt ((Bool.eq_false_or_eq_true _).elim (fun q_ => blk_lt (Q_BK491_e21 q_)) (fun q_ => blk_lt (Q_BK491 h1_ q_)))))
       have z_NB490_491 := fun (h0_ : up b 16 16 = true) (h1_ : up b 16 17 = true) => (show gb490 ≠ gb491 from (by rw [hg]; exact Nat.ne_of_gt ((Bool.eq_false_or_eq_true _).elim (fun q_ => blk_lt (Q_BK491_e21 q_)) (fun q_ => blk_lt (Q_BK491 h1_ q_)))))
       have z_BK488 := fun (h0_ : b 14 = true) (h1_ : b 18 = false) => (show w22.heap[gb488]? = some (.cells #[.int .i64 0, .int .i64 0] 28 (0, 0)) from by first | exact (blk_below (g := gb488) (o := .cells #[.int .i64 0, .int .i64 0] 28 (0, 0)) (by (with_reducible repeat (first | refine blk_drewN ?_ _ | refine blk_drew ?_ | refine blk_alloc ?_ _)); exact (Q_BK488 h0_ h1_)) hb))
       have z_BK489 := fun (h0_ : b 15 = true) (h1_ : b 19 = false) => (show w22.heap[gb489]? = some (.cells #[.int .i64 0, .int .i64 0] 28 (0, 0)) from by first | exact (blk_below (g := gb489) (o := .cells #[.int .i64 0, .int .i64 0] 28 (0, 0)) (by (with_reducible repeat (first | refine blk_drewN ?_ _ | refine blk_drew ?_ | refine blk_alloc ?_ _)); exact (Q_BK489 h0_ h1_)) hb))
       have z_BK491 := fun (h0_ : b 17 = true) (h1_ : b 21 = false) => (show w22.heap[gb491]? = some (.cells #[.int .i64 0, .int .i64 0] 28 (0, 0)) from by first | exact (blk_below (g := gb491) (o := .cells #[.int .i64 0, .int .i64 0] 28 (0, 0)) (by (with_reducible repeat (first | refine blk_drewN ?_ _ | refine blk_drew ?_ | refine blk_alloc ?_ _)); exact (Q_BK491 h0_ h1_)) hb))
       clear HB
       have HB := n0_
       have BK490 := n1_
       have GW490 := n2_
       have GE490 := n3_
       clear n0_ n1_ n2_ n3_
       clear hb hbox hg
       refine hK.out _ _ ⟨gb488, gb489, gb490, gb491, m14_, m15_, (.pointer (some ⟨gb490, 0, none⟩)), m17_, (by rw [ha.out]; exact putSel_upk 8 hb_ rfl rfl rfl), bX, Q_NB489_488, Q_NB488_489, z_NB490_488, z_NB488_490, Q_NB491_488, Q_NB488_491, z_NB490_489, z_NB489_490, Q_NB491_489, Q_NB489_491, z_NB491_490, z_NB490_491, z_BK488, Q_GW488, Q_GE488, z_BK489, Q_GW489, Q_GE489, fun _ _ => (bP BK490), fun _ => GW490.out, fun _ => GE490.out, z_BK491, Q_GW491, Q_GE491, fun h0_ => absurd ((hoff 18 (by kernel_rfl)).symm.trans h0_) (by decide), fun h0_ => absurd ((hoff 19 (by kernel_rfl)).symm.trans h0_) (by decide), fun h0_ => absurd ((hoff 20 (by kernel_rfl)).symm.trans h0_) (by decide), fun h0_ => absurd ((hoff 21 (by kernel_rfl)).symm.trans h0_) (by decide), Q_X14_, Q_X15_, fun _ => rfl, Q_X17_⟩
      refine steps_cons ?_ ?_
      ·rintro b a w' ⟨gb488, gb489, gb490, gb491, m14_, m15_, m16_, m17_, ha, Q_HB, Q_NB489_488, Q_NB488_489, Q_NB490_488, Q_NB488_490, Q_NB491_488, Q_NB488_491, Q_NB490_489, Q_NB489_490, Q_NB491_489, Q_NB489_491, Q_NB491_490, Q_NB490_491, Q_BK488, Q_GW488, Q_GE488, Q_BK489, Q_GW489, Q_GE489, Q_BK490, Q_GW490, Q_GE490, Q_BK491, Q_GW491, Q_GE491, Q_BK488_e18, Q_BK489_e19, Q_BK490_e20, Q_BK491_e21, Q_X14_, Q_X15_, Q_X16_, Q_X17_⟩ hb_ hon hoff
       refine ⟨_, rfl, fun K hK => ?_⟩
       replace ha := bA ha
       have HB := bA Q_HB
       refine bT (N := 10) (cs := #[.int .i64 0, .int .i64 0]) (t := 28) ?_
       intro gb491 hg w22 hbox hb
       have n0_ := bA (bS hb)
       have n1_ := bA (hbox)
       have n2_ := bA (bZ hg)
       have n3_ := bA (bZ hg)
       have z_NB491_488 := fun (h0_ : up b 17 14 = true) (h1_ : up b 17 17 = true) => (show gb491 ≠ gb488 from (by rw [hg]; exact Nat.ne_of_gt ((Bool.eq_false_or_eq_true _).elim (fun q_ => blk_lt (Q_BK488_e18 q_)) (fun q_ => blk_lt (Q_BK488 h0_ q_)))))
       have z_NB488_491 := fun (h0_ : up b 17 14 = true) (h1_ : up b 17 17 = true) => (show gb488 ≠ gb491 from (by rw [hg]; exact Nat.ne_of_lt ((Bool.eq_false_or_eq_true _).elim (fun q_ => blk_lt (Q_BK488_e18 q_)) (fun q_ => blk_lt (Q_BK488 h0_ q_)))))
       have z_NB491_489 := fun (h0_ : up b 17 15 = true) (h1_ : up b 17 17 = true) => (show gb491 ≠ gb489 from (by rw [hg]; exact Nat.ne_of_gt ((Bool.eq_false_or_eq_true _).elim (fun q_ => blk_lt (Q_BK489_e19 q_)) (fun q_ => blk_lt (Q_BK489 h0_ q_)))))
       have z_NB489_491 := fun (h0_ : up b 17 15 = true) (h1_ : up b 17 17 = true) => (show gb489 ≠ gb491 from (by rw [hg]; exact Nat.ne_of_lt ((Bool.eq_false_or_eq_true _).elim (fun q_ => blk_lt (Q_BK489_e19 q_)) (fun q_ => blk_lt (Q_BK489 h0_ q_)))))
       have z_NB491_490 := fun (h0_ : up b 17 16 = true) (h1_ : up b 17 17 = true) => (show gb491 ≠ gb490 from (by rw [hg]; exact Nat.ne_of_gt ((Bool.eq_false_or_eq_true _).elim (fun q_ => blk_lt (Q_BK490_e20 q_)) (fun q_ => blk_lt (Q_BK490 h0_ q_)))))
       have z_NB490_491 := fun (h0_ : up b 17 16 = true) (h1_ : up b 17 17 = true) => (show gb490 ≠ gb491 from (by rw [hg]; exact Nat.ne_of_lt ((Bool.eq_false_or_eq_true _).elim (fun q_ => blk_lt (Q_BK490_e20 q_)) (fun q_ => blk_lt (Q_BK490 h0_ q_)))))
       have z_BK488 := fun (h0_ : b 14 = true) (h1_ : b 18 = false) => (show w22.heap[gb488]? = some (.cells #[.int .i64 0, .int .i64 0] 28 (0, 0)) from by first | exact (blk_below (g := gb488) (o := .cells #[.int .i64 0, .int .i64 0] 28 (0, 0)) (by (with_reducible repeat (first | refine blk_drewN ?_ _ | refine blk_drew ?_ | refine blk_alloc ?_ _)); exact (Q_BK488 h0_ h1_)) hb))
       have z_BK489 := fun (h0_ : b 15 = true) (h1_ : b 19 = false) => (show w22.heap[gb489]? = some (.cells #[.int .i64 0, .int .i64 0] 28 (0, 0)) from by first | exact (blk_below (g := gb489) (o := .cells #[.int .i64 0, .int .i64 0] 28 (0, 0)) (by (with_reducible repeat (first | refine blk_drewN ?_ _ | refine blk_drew ?_ | refine blk_alloc ?_ _)); exact (Q_BK489 h0_ h1_)) hb))
       have z_BK490 := fun (h0_ : b 16 = true) (h1_ : b 20 = false) => (show w22.heap[gb490]? = some (.cells #[.int .i64 0, .int .i64 0] 28 (0, 0)) from by first | exact (blk_below (g := gb490) (o := .cells #[.int .i64 0, .int .i64 0] 28 (0, 0)) (by (with_reducible repeat (first | refine blk_drewN ?_ _ | refine blk_drew ?_ | refine blk_alloc ?_ _)); exact (Q_BK490 h0_ h1_)) hb))
       clear HB
       have HB := n0_
       have BK491 := n1_
       have GW491 := n2_
       have GE491 := n3_
       clear n0_ n1_ n2_ n3_
       clear hb hbox hg
       refine hK.out _ _ ⟨gb488, gb489, gb490, gb491, m14_, m15_, m16_, (.pointer (some ⟨gb491, 0, none⟩)), (by rw [ha.out]; exact putSel_upk 9 hb_ rfl rfl rfl), bX, Q_NB489_488, Q_NB488_489, Q_NB490_488, Q_NB488_490, z_NB491_488, z_NB488_491, Q_NB490_489, Q_NB489_490, z_NB491_489, z_NB489_491, z_NB491_490, z_NB490_491, z_BK488, Q_GW488, Q_GE488, z_BK489, Q_GW489, Q_GE489, z_BK490, Q_GW490, Q_GE490, fun _ _ => (bP BK491), fun _ => GW491.out, fun _ => GE491.out, fun h0_ => absurd ((hoff 18 (by kernel_rfl)).symm.trans h0_) (by decide), fun h0_ => absurd ((hoff 19 (by kernel_rfl)).symm.trans h0_) (by decide), fun h0_ => absurd ((hoff 20 (by kernel_rfl)).symm.trans h0_) (by decide), fun h0_ => absurd ((hoff 21 (by kernel_rfl)).symm.trans h0_) (by decide), Q_X14_, Q_X15_, Q_X16_, fun _ => rfl⟩
      refine steps_cons ?_ ?_
      ·rintro b a w' ⟨gb488, gb489, gb490, gb491, m14_, m15_, m16_, m17_, ha, Q_HB, Q_NB489_488, Q_NB488_489, Q_NB490_488, Q_NB488_490, Q_NB491_488, Q_NB488_491, Q_NB490_489, Q_NB489_490, Q_NB491_489, Q_NB489_491, Q_NB491_490, Q_NB490_491, Q_BK488, Q_GW488, Q_GE488, Q_BK489, Q_GW489, Q_GE489, Q_BK490, Q_GW490, Q_GE490, Q_BK491, Q_GW491, Q_GE491, Q_BK488_e18, Q_BK489_e19, Q_BK490_e20, Q_BK491_e21, Q_X14_, Q_X15_, Q_X16_, Q_X17_⟩ hb_ hon hoff
       refine ⟨_, rfl, fun K hK => ?_⟩
       have e7 : a.tmps[7]? = some (m14_) := by rw [ha]; exact putSel_on (e := (14, 7, m14_)) 6 rfl rfl (hon 14 (by kernel_rfl)) rfl
       rw [Q_X14_ (hon 14 (by kernel_rfl))] at e7
       have e45 : a.tmps[45]? = some (.agg #[.int .i64 ((rd_T28 l0 x5_3).f0), .int .i64 ((rd_T28 l0 x5_3).f1)]) := by rw [ha]; exact putSel_on (e := (3, 45, .agg #[.int .i64 ((rd_T28 l0 x5_3).f0), .int .i64 ((rd_T28 l0 x5_3).f1)])) 1 rfl rfl (hon 3 (by kernel_rfl)) rfl
       replace ha := bA ha
       have HB := bA Q_HB
       have NB489_488 := bA (Q_NB489_488 (hon 14 (by kernel_rfl)) (hon 15 (by kernel_rfl)))
       have NB488_489 := bA (Q_NB488_489 (hon 14 (by kernel_rfl)) (hon 15 (by kernel_rfl)))
       have NB490_488 := bA (Q_NB490_488 (hon 14 (by kernel_rfl)) (hon 16 (by kernel_rfl)))
       have NB488_490 := bA (Q_NB488_490 (hon 14 (by kernel_rfl)) (hon 16 (by kernel_rfl)))
       have NB491_488 := bA (Q_NB491_488 (hon 14 (by kernel_rfl)) (hon 17 (by kernel_rfl)))
       have NB488_491 := bA (Q_NB488_491 (hon 14 (by kernel_rfl)) (hon 17 (by kernel_rfl)))
       have NB490_489 := bA (Q_NB490_489 (hon 15 (by kernel_rfl)) (hon 16 (by kernel_rfl)))
       have NB489_490 := bA (Q_NB489_490 (hon 15 (by kernel_rfl)) (hon 16 (by kernel_rfl)))
       have NB491_489 := bA (Q_NB491_489 (hon 15 (by kernel_rfl)) (hon 17 (by kernel_rfl)))
       have NB489_491 := bA (Q_NB489_491 (hon 15 (by kernel_rfl)) (hon 17 (by kernel_rfl)))
       have NB491_490 := bA (Q_NB491_490 (hon 16 (by kernel_rfl)) (hon 17 (by kernel_rfl)))
       have NB490_491 := bA (Q_NB490_491 (hon 16 (by kernel_rfl)) (hon 17 (by kernel_rfl)))
       have BK488 := bA (Q_BK488 (hon 14 (by kernel_rfl)) hb_)
       have GW488 := bA (Q_GW488 (hon 14 (by kernel_rfl)))
       have GE488 := bA (Q_GE488 (hon 14 (by kernel_rfl)))
       have BK489 := bA (Q_BK489 (hon 15 (by kernel_rfl)) (hoff 19 (by kernel_rfl)))
       have GW489 := bA (Q_GW489 (hon 15 (by kernel_rfl)))
       have GE489 := bA (Q_GE489 (hon 15 (by kernel_rfl)))
       have BK490 := bA (Q_BK490 (hon 16 (by kernel_rfl)) (hoff 20 (by kernel_rfl)))
       have GW490 := bA (Q_GW490 (hon 16 (by kernel_rfl)))
       have GE490 := bA (Q_GE490 (hon 16 (by kernel_rfl)))
       have BK491 := bA (Q_BK491 (hon 17 (by kernel_rfl)) (hoff 21 (by kernel_rfl)))
       have GW491 := bA (Q_GW491 (hon 17 (by kernel_rfl)))
       have GE491 := bA (Q_GE491 (hon 17 (by kernel_rfl)))
       have hs29 : w'.cell? ⟨gb488, 0, none⟩ = some (.int .i64 0) := bq BK488 0
       have hfs29 := blk_frozen BK488.out 0
       have hns29_1 := NB489_488.out
       have hns29_2 := NB490_488.out
       have hns29_3 := NB491_488.out
       have hms29_1 := NB488_489.out
       have hms29_2 := NB488_490.out
       have hms29_3 := NB488_491.out
       have hs30 : w'.cell? ⟨gb488, 1, none⟩ = some (.int .i64 0) := bq BK488 1
       have hfs30 := blk_frozen BK488.out 1
       have hns30_1 := NB489_488.out
       have hns30_2 := NB490_488.out
       have hns30_3 := NB491_488.out
       have hms30_1 := NB488_489.out
       have hms30_2 := NB488_490.out
       have hms30_3 := NB488_491.out
       refine skip_ (w1 := ?_) (by rfl) rfl ?_ ?_
       rotate_left
       ·go_simp
        rfl
       refine hK.out _ _ ⟨gb488, gb489, gb490, gb491, m14_, m15_, m16_, m17_, (by rw [ha.out]; exact putSel_none (v := undef) rfl), bX, fun _ _ => NB489_488.out, fun _ _ => NB488_489.out, fun _ _ => NB490_488.out, fun _ _ => NB488_490.out, fun _ _ => NB491_488.out, fun _ _ => NB488_491.out, fun _ _ => NB490_489.out, fun _ _ => NB489_490.out, fun _ _ => NB491_489.out, fun _ _ => NB489_491.out, fun _ _ => NB491_490.out, fun _ _ => NB490_491.out, fun _ h1_ => absurd ((up_self b 18).symm.trans h1_) (by decide), fun _ => GW488.out, fun _ => GE488.out, fun _ _ => (by (repeat ((with_reducible repeat (first | refine blk_drewN ?_ _ | refine blk_drew ?_ | refine blk_alloc ?_ _)); refine blk_far ?_ NB489_488.out _)); (with_reducible repeat (first | refine blk_drewN ?_ _ | refine blk_drew ?_ | refine blk_alloc ?_ _)); exact BK489.out), fun _ => GW489.out, fun _ => GE489.out, fun _ _ => (by (repeat ((with_reducible repeat (first | refine blk_drewN ?_ _ | refine blk_drew ?_ | refine blk_alloc ?_ _)); refine blk_far ?_ NB490_488.out _)); (with_reducible repeat (first | refine blk_drewN ?_ _ | refine blk_drew ?_ | refine blk_alloc ?_ _)); exact BK490.out), fun _ => GW490.out, fun _ => GE490.out, fun _ _ => (by (repeat ((with_reducible repeat (first | refine blk_drewN ?_ _ | refine blk_drew ?_ | refine blk_alloc ?_ _)); refine blk_far ?_ NB491_488.out _)); (with_reducible repeat (first | refine blk_drewN ?_ _ | refine blk_drew ?_ | refine blk_alloc ?_ _)); exact BK491.out), fun _ => GW491.out, fun _ => GE491.out, fun _ => (by (with_reducible repeat (first | refine blk_drewN ?_ _ | refine blk_drew ?_ | refine blk_alloc ?_ _)); refine blk_put (cs := #[.int .i64 ((rd_T28 l0 x5_3).f0), .int .i64 0]) ?_ 1 _ rfl; (with_reducible repeat (first | refine blk_drewN ?_ _ | refine blk_drew ?_ | refine blk_alloc ?_ _)); refine blk_put (cs := #[.int .i64 0, .int .i64 0]) ?_ 0 _ rfl; (with_reducible repeat (first | refine blk_drewN ?_ _ | refine blk_drew ?_ | refine blk_alloc ?_ _)); exact BK488.out), fun h0_ => absurd ((hoff 19 (by kernel_rfl)).symm.trans h0_) (by decide), fun h0_ => absurd ((hoff 20 (by kernel_rfl)).symm.trans h0_) (by decide), fun h0_ => absurd ((hoff 21 (by kernel_rfl)).symm.trans h0_) (by decide), Q_X14_, Q_X15_, Q_X16_, Q_X17_⟩
      refine steps_cons ?_ ?_
      ·rintro b a w' ⟨gb488, gb489, gb490, gb491, m14_, m15_, m16_, m17_, ha, Q_HB, Q_NB489_488, Q_NB488_489, Q_NB490_488, Q_NB488_490, Q_NB491_488, Q_NB488_491, Q_NB490_489, Q_NB489_490, Q_NB491_489, Q_NB489_491, Q_NB491_490, Q_NB490_491, Q_BK488, Q_GW488, Q_GE488, Q_BK489, Q_GW489, Q_GE489, Q_BK490, Q_GW490, Q_GE490, Q_BK491, Q_GW491, Q_GE491, Q_BK488_e18, Q_BK489_e19, Q_BK490_e20, Q_BK491_e21, Q_X14_, Q_X15_, Q_X16_, Q_X17_⟩ hb_ hon hoff
       refine ⟨_, rfl, fun K hK => ?_⟩
       have e8 : a.tmps[8]? = some (m15_) := by rw [ha]; exact putSel_on (e := (15, 8, m15_)) 7 rfl rfl (hon 15 (by kernel_rfl)) rfl
       rw [Q_X15_ (hon 15 (by kernel_rfl))] at e8
       have e48 : a.tmps[48]? = some (.agg #[.int .i64 t483, .int .i64 t484]) := by rw [ha]; exact putSel_on (e := (6, 48, .agg #[.int .i64 t483, .int .i64 t484])) 2 rfl rfl (hon 6 (by kernel_rfl)) rfl
       replace ha := bA ha
       have HB := bA Q_HB
       have NB489_488 := bA (Q_NB489_488 (hon 14 (by kernel_rfl)) (hon 15 (by kernel_rfl)))
       have NB488_489 := bA (Q_NB488_489 (hon 14 (by kernel_rfl)) (hon 15 (by kernel_rfl)))
       have NB490_488 := bA (Q_NB490_488 (hon 14 (by kernel_rfl)) (hon 16 (by kernel_rfl)))
       have NB488_490 := bA (Q_NB488_490 (hon 14 (by kernel_rfl)) (hon 16 (by kernel_rfl)))
       have NB491_488 := bA (Q_NB491_488 (hon 14 (by kernel_rfl)) (hon 17 (by kernel_rfl)))
       have NB488_491 := bA (Q_NB488_491 (hon 14 (by kernel_rfl)) (hon 17 (by kernel_rfl)))
       have NB490_489 := bA (Q_NB490_489 (hon 15 (by kernel_rfl)) (hon 16 (by kernel_rfl)))
       have NB489_490 := bA (Q_NB489_490 (hon 15 (by kernel_rfl)) (hon 16 (by kernel_rfl)))
       have NB491_489 := bA (Q_NB491_489 (hon 15 (by kernel_rfl)) (hon 17 (by kernel_rfl)))
       have NB489_491 := bA (Q_NB489_491 (hon 15 (by kernel_rfl)) (hon 17 (by kernel_rfl)))
       have NB491_490 := bA (Q_NB491_490 (hon 16 (by kernel_rfl)) (hon 17 (by kernel_rfl)))
       have NB490_491 := bA (Q_NB490_491 (hon 16 (by kernel_rfl)) (hon 17 (by kernel_rfl)))
       have GW488 := bA (Q_GW488 (hon 14 (by kernel_rfl)))
       have GE488 := bA (Q_GE488 (hon 14 (by kernel_rfl)))
       have BK489 := bA (Q_BK489 (hon 15 (by kernel_rfl)) hb_)
       have GW489 := bA (Q_GW489 (hon 15 (by kernel_rfl)))
       have GE489 := bA (Q_GE489 (hon 15 (by kernel_rfl)))
       have BK490 := bA (Q_BK490 (hon 16 (by kernel_rfl)) (hoff 20 (by kernel_rfl)))
       have GW490 := bA (Q_GW490 (hon 16 (by kernel_rfl)))
       have GE490 := bA (Q_GE490 (hon 16 (by kernel_rfl)))
       have BK491 := bA (Q_BK491 (hon 17 (by kernel_rfl)) (hoff 21 (by kernel_rfl)))
       have GW491 := bA (Q_GW491 (hon 17 (by kernel_rfl)))
       have GE491 := bA (Q_GE491 (hon 17 (by kernel_rfl)))
       have BK488 := bA (Q_BK488_e18 (hon 18 (by kernel_rfl)))
       have hs31 : w'.cell? ⟨gb489, 0, none⟩ = some (.int .i64 0) := bq BK489 0
       have hfs31 := blk_frozen BK489.out 0
       have hns31_0 := NB488_489.out
       have hns31_2 := NB490_489.out
       have hns31_3 := NB491_489.out
       have hms31_0 := NB489_488.out
       have hms31_2 := NB489_490.out
       have hms31_3 := NB489_491.out
       have hs32 : w'.cell? ⟨gb489, 1, none⟩ = some (.int .i64 0) := bq BK489 1
       have hfs32 := blk_frozen BK489.out 1
       have hns32_0 := NB488_489.out
       have hns32_2 := NB490_489.out
       have hns32_3 := NB491_489.out
       have hms32_0 := NB489_488.out
       have hms32_2 := NB489_490.out
       have hms32_3 := NB489_491.out
       refine skip_ (w1 := ?_) (by rfl) rfl ?_ ?_
       rotate_left
       ·go_simp
        rfl
       refine hK.out _ _ ⟨gb488, gb489, gb490, gb491, m14_, m15_, m16_, m17_, (by rw [ha.out]; exact putSel_none (v := undef) rfl), bX, fun _ _ => NB489_488.out, fun _ _ => NB488_489.out, fun _ _ => NB490_488.out, fun _ _ => NB488_490.out, fun _ _ => NB491_488.out, fun _ _ => NB488_491.out, fun _ _ => NB490_489.out, fun _ _ => NB489_490.out, fun _ _ => NB491_489.out, fun _ _ => NB489_491.out, fun _ _ => NB491_490.out, fun _ _ => NB490_491.out, fun _ h1_ => absurd ((hon 18 (by kernel_rfl)).symm.trans h1_) (by decide), fun _ => GW488.out, fun _ => GE488.out, fun _ h1_ => absurd ((up_self b 19).symm.trans h1_) (by decide), fun _ => GW489.out, fun _ => GE489.out, fun _ _ => (by (repeat ((with_reducible repeat (first | refine blk_drewN ?_ _ | refine blk_drew ?_ | refine blk_alloc ?_ _)); refine blk_far ?_ NB490_489.out _)); (with_reducible repeat (first | refine blk_drewN ?_ _ | refine blk_drew ?_ | refine blk_alloc ?_ _)); exact BK490.out), fun _ => GW490.out, fun _ => GE490.out, fun _ _ => (by (repeat ((with_reducible repeat (first | refine blk_drewN ?_ _ | refine blk_drew ?_ | refine blk_alloc ?_ _)); refine blk_far ?_ NB491_489.out _)); (with_reducible repeat (first | refine blk_drewN ?_ _ | refine blk_drew ?_ | refine blk_alloc ?_ _)); exact BK491.out), fun _ => GW491.out, fun _ => GE491.out, fun _ => (by (repeat ((with_reducible repeat (first | refine blk_drewN ?_ _ | refine blk_drew ?_ | refine blk_alloc ?_ _)); refine blk_far ?_ NB488_489.out _)); (with_reducible repeat (first | refine blk_drewN ?_ _ | refine blk_drew ?_ | refine blk_alloc ?_ _)); exact BK488.out), fun _ => (by (with_reducible repeat (first | refine blk_drewN ?_ _ | refine blk_drew ?_ | refine blk_alloc ?_ _)); refine blk_put (cs := #[.int .i64 t483, .int .i64 0]) ?_ 1 _ rfl; (with_reducible repeat (first | refine blk_drewN ?_ _ | refine blk_drew ?_ | refine blk_alloc ?_ _)); refine blk_put (cs := #[.int .i64 0, .int .i64 0]) ?_ 0 _ rfl; (with_reducible repeat (first | refine blk_drewN ?_ _ | refine blk_drew ?_ | refine blk_alloc ?_ _)); exact BK489.out), fun h0_ => absurd ((hoff 20 (by kernel_rfl)).symm.trans h0_) (by decide), fun h0_ => absurd ((hoff 21 (by kernel_rfl)).symm.trans h0_) (by decide), Q_X14_, Q_X15_, Q_X16_, Q_X17_⟩
      refine steps_cons ?_ ?_
      ·rintro b a w' ⟨gb488, gb489, gb490, gb491, m14_, m15_, m16_, m17_, ha, Q_HB, Q_NB489_488, Q_NB488_489, Q_NB490_488, Q_NB488_490, Q_NB491_488, Q_NB488_491, Q_NB490_489, Q_NB489_490, Q_NB491_489, Q_NB489_491, Q_NB491_490, Q_NB490_491, Q_BK488, Q_GW488, Q_GE488, Q_BK489, Q_GW489, Q_GE489, Q_BK490, Q_GW490, Q_GE490, Q_BK491, Q_GW491, Q_GE491, Q_BK488_e18, Q_BK489_e19, Q_BK490_e20, Q_BK491_e21, Q_X14_, Q_X15_, Q_X16_, Q_X17_⟩ hb_ hon hoff
       refine ⟨_, rfl, fun K hK => ?_⟩
       have e9 : a.tmps[9]? = some (m16_) := by rw [ha]; exact putSel_on (e := (16, 9, m16_)) 8 rfl rfl (hon 16 (by kernel_rfl)) rfl
       rw [Q_X16_ (hon 16 (by kernel_rfl))] at e9
       have e52 : a.tmps[52]? = some (.agg #[.int .i64 ((rd_T28 l0 x6_4).f0), .int .i64 ((rd_T28 l0 x6_4).f1)]) := by rw [ha]; exact putSel_on (e := (10, 52, .agg #[.int .i64 ((rd_T28 l0 x6_4).f0), .int .i64 ((rd_T28 l0 x6_4).f1)])) 4 rfl rfl (hon 10 (by kernel_rfl)) rfl
       replace ha := bA ha
       have HB := bA Q_HB
       have NB489_488 := bA (Q_NB489_488 (hon 14 (by kernel_rfl)) (hon 15 (by kernel_rfl)))
       have NB488_489 := bA (Q_NB488_489 (hon 14 (by kernel_rfl)) (hon 15 (by kernel_rfl)))
       have NB490_488 := bA (Q_NB490_488 (hon 14 (by kernel_rfl)) (hon 16 (by kernel_rfl)))
       have NB488_490 := bA (Q_NB488_490 (hon 14 (by kernel_rfl)) (hon 16 (by kernel_rfl)))
       have NB491_488 := bA (Q_NB491_488 (hon 14 (by kernel_rfl)) (hon 17 (by kernel_rfl)))
       have NB488_491 := bA (Q_NB488_491 (hon 14 (by kernel_rfl)) (hon 17 (by kernel_rfl)))
       have NB490_489 := bA (Q_NB490_489 (hon 15 (by kernel_rfl)) (hon 16 (by kernel_rfl)))
       have NB489_490 := bA (Q_NB489_490 (hon 15 (by kernel_rfl)) (hon 16 (by kernel_rfl)))
       have NB491_489 := bA (Q_NB491_489 (hon 15 (by kernel_rfl)) (hon 17 (by kernel_rfl)))
       have NB489_491 := bA (Q_NB489_491 (hon 15 (by kernel_rfl)) (hon 17 (by kernel_rfl)))
       have NB491_490 := bA (Q_NB491_490 (hon 16 (by kernel_rfl)) (hon 17 (by kernel_rfl)))
       have NB490_491 := bA (Q_NB490_491 (hon 16 (by kernel_rfl)) (hon 17 (by kernel_rfl)))
       have GW488 := bA (Q_GW488 (hon 14 (by kernel_rfl)))
       have GE488 := bA (Q_GE488 (hon 14 (by kernel_rfl)))
       have GW489 := bA (Q_GW489 (hon 15 (by kernel_rfl)))
       have GE489 := bA (Q_GE489 (hon 15 (by kernel_rfl)))
       have BK490 := bA (Q_BK490 (hon 16 (by kernel_rfl)) hb_)
       have GW490 := bA (Q_GW490 (hon 16 (by kernel_rfl)))
       have GE490 := bA (Q_GE490 (hon 16 (by kernel_rfl)))
       have BK491 := bA (Q_BK491 (hon 17 (by kernel_rfl)) (hoff 21 (by kernel_rfl)))
       have GW491 := bA (Q_GW491 (hon 17 (by kernel_rfl)))
       have GE491 := bA (Q_GE491 (hon 17 (by kernel_rfl)))
       have BK488 := bA (Q_BK488_e18 (hon 18 (by kernel_rfl)))
       have BK489 := bA (Q_BK489_e19 (hon 19 (by kernel_rfl)))
       have hs33 : w'.cell? ⟨gb490, 0, none⟩ = some (.int .i64 0) := bq BK490 0
       have hfs33 := blk_frozen BK490.out 0
       have hns33_0 := NB488_490.out
       have hns33_1 := NB489_490.out
       have hns33_3 := NB491_490.out
       have hms33_0 := NB490_488.out
       have hms33_1 := NB490_489.out
       have hms33_3 := NB490_491.out
       have hs34 : w'.cell? ⟨gb490, 1, none⟩ = some (.int .i64 0) := bq BK490 1
       have hfs34 := blk_frozen BK490.out 1
       have hns34_0 := NB488_490.out
       have hns34_1 := NB489_490.out
       have hns34_3 := NB491_490.out
       have hms34_0 := NB490_488.out
       have hms34_1 := NB490_489.out
       have hms34_3 := NB490_491.out
       refine skip_ (w1 := ?_) (by rfl) rfl ?_ ?_
       rotate_left
       ·go_simp
        rfl
       refine hK.out _ _ ⟨gb488, gb489, gb490, gb491, m14_, m15_, m16_, m17_, (by rw [ha.out]; exact putSel_none (v := undef) rfl), bX, fun _ _ => NB489_488.out, fun _ _ => NB488_489.out, fun _ _ => NB490_488.out, fun _ _ => NB488_490.out, fun _ _ => NB491_488.out, fun _ _ => NB488_491.out, fun _ _ => NB490_489.out, fun _ _ => NB489_490.out, fun _ _ => NB491_489.out, fun _ _ => NB489_491.out, fun _ _ => NB491_490.out, fun _ _ => NB490_491.out, fun _ h1_ => absurd ((hon 18 (by kernel_rfl)).symm.trans h1_) (by decide), fun _ => GW488.out, fun _ => GE488.out, fun _ h1_ => absurd ((hon 19 (by kernel_rfl)).symm.trans h1_) (by decide), fun _ => GW489.out, fun _ => GE489.out, fun _ h1_ => absurd ((up_self b 20).symm.trans h1_) (by decide), fun _ => GW490.out, fun _ => GE490.out, fun _ _ => (by (repeat ((with_reducible repeat (first | refine blk_drewN ?_ _ | refine blk_drew ?_ | refine blk_alloc ?_ _)); refine blk_far ?_ NB491_490.out _)); (with_reducible repeat (first | refine blk_drewN ?_ _ | refine blk_drew ?_ | refine blk_alloc ?_ _)); exact BK491.out), fun _ => GW491.out, fun _ => GE491.out, fun _ => (by (repeat ((with_reducible repeat (first | refine blk_drewN ?_ _ | refine blk_drew ?_ | refine blk_alloc ?_ _)); refine blk_far ?_ NB488_490.out _)); (with_reducible repeat (first | refine blk_drewN ?_ _ | refine blk_drew ?_ | refine blk_alloc ?_ _)); exact BK488.out), fun _ => (by (repeat ((with_reducible repeat (first | refine blk_drewN ?_ _ | refine blk_drew ?_ | refine blk_alloc ?_ _)); refine blk_far ?_ NB489_490.out _)); (with_reducible repeat (first | refine blk_drewN ?_ _ | refine blk_drew ?_ | refine blk_alloc ?_ _)); exact BK489.out), fun _ => (by (with_reducible repeat (first | refine blk_drewN ?_ _ | refine blk_drew ?_ | refine blk_alloc ?_ _)); refine blk_put (cs := #[.int .i64 ((rd_T28 l0 x6_4).f0), .int .i64 0]) ?_ 1 _ rfl; (with_reducible repeat (first | refine blk_drewN ?_ _ | refine blk_drew ?_ | refine blk_alloc ?_ _)); refine blk_put (cs := #[.int .i64 0, .int .i64 0]) ?_ 0 _ rfl; (with_reducible repeat (first | refine blk_drewN ?_ _ | refine blk_drew ?_ | refine blk_alloc ?_ _)); exact BK490.out), fun h0_ => absurd ((hoff 21 (by kernel_rfl)).symm.trans h0_) (by decide), Q_X14_, Q_X15_, Q_X16_, Q_X17_⟩
      refine steps_cons ?_ ?_
      ·rintro b a w' ⟨gb488, gb489, gb490, gb491, m14_, m15_, m16_, m17_, ha, Q_HB, Q_NB489_488, Q_NB488_489, Q_NB490_488, Q_NB488_490, Q_NB491_488, Q_NB488_491, Q_NB490_489, Q_NB489_490, Q_NB491_489, Q_NB489_491, Q_NB491_490, Q_NB490_491, Q_BK488, Q_GW488, Q_GE488, Q_BK489, Q_GW489, Q_GE489, Q_BK490, Q_GW490, Q_GE490, Q_BK491, Q_GW491, Q_GE491, Q_BK488_e18, Q_BK489_e19, Q_BK490_e20, Q_BK491_e21, Q_X14_, Q_X15_, Q_X16_, Q_X17_⟩ hb_ hon hoff
       refine ⟨_, rfl, fun K hK => ?_⟩
       have e10 : a.tmps[10]? = some (m17_) := by rw [ha]; exact putSel_on (e := (17, 10, m17_)) 9 rfl rfl (hon 17 (by kernel_rfl)) rfl
       rw [Q_X17_ (hon 17 (by kernel_rfl))] at e10
       have e55 : a.tmps[55]? = some (.agg #[.int .i64 t486, .int .i64 t487]) := by rw [ha]; exact putSel_on (e := (13, 55, .agg #[.int .i64 t486, .int .i64 t487])) 5 rfl rfl (hon 13 (by kernel_rfl)) rfl
       replace ha := bA ha
       have HB := bA Q_HB
       have NB489_488 := bA (Q_NB489_488 (hon 14 (by kernel_rfl)) (hon 15 (by kernel_rfl)))
       have NB488_489 := bA (Q_NB488_489 (hon 14 (by kernel_rfl)) (hon 15 (by kernel_rfl)))
       have NB490_488 := bA (Q_NB490_488 (hon 14 (by kernel_rfl)) (hon 16 (by kernel_rfl)))
       have NB488_490 := bA (Q_NB488_490 (hon 14 (by kernel_rfl)) (hon 16 (by kernel_rfl)))
       have NB491_488 := bA (Q_NB491_488 (hon 14 (by kernel_rfl)) (hon 17 (by kernel_rfl)))
       have NB488_491 := bA (Q_NB488_491 (hon 14 (by kernel_rfl)) (hon 17 (by kernel_rfl)))
       have NB490_489 := bA (Q_NB490_489 (hon 15 (by kernel_rfl)) (hon 16 (by kernel_rfl)))
       have NB489_490 := bA (Q_NB489_490 (hon 15 (by kernel_rfl)) (hon 16 (by kernel_rfl)))
       have NB491_489 := bA (Q_NB491_489 (hon 15 (by kernel_rfl)) (hon 17 (by kernel_rfl)))
       have NB489_491 := bA (Q_NB489_491 (hon 15 (by kernel_rfl)) (hon 17 (by kernel_rfl)))
       have NB491_490 := bA (Q_NB491_490 (hon 16 (by kernel_rfl)) (hon 17 (by kernel_rfl)))
       have NB490_491 := bA (Q_NB490_491 (hon 16 (by kernel_rfl)) (hon 17 (by kernel_rfl)))
       have GW488 := bA (Q_GW488 (hon 14 (by kernel_rfl)))
       have GE488 := bA (Q_GE488 (hon 14 (by kernel_rfl)))
       have GW489 := bA (Q_GW489 (hon 15 (by kernel_rfl)))
       have GE489 := bA (Q_GE489 (hon 15 (by kernel_rfl)))
       have GW490 := bA (Q_GW490 (hon 16 (by kernel_rfl)))
       have GE490 := bA (Q_GE490 (hon 16 (by kernel_rfl)))
       have BK491 := bA (Q_BK491 (hon 17 (by kernel_rfl)) hb_)
       have GW491 := bA (Q_GW491 (hon 17 (by kernel_rfl)))
       have GE491 := bA (Q_GE491 (hon 17 (by kernel_rfl)))
       have BK488 := bA (Q_BK488_e18 (hon 18 (by kernel_rfl)))
       have BK489 := bA (Q_BK489_e19 (hon 19 (by kernel_rfl)))
       have BK490 := bA (Q_BK490_e20 (hon 20 (by kernel_rfl)))
       have hs35 : w'.cell? ⟨gb491, 0, none⟩ = some (.int .i64 0) := bq BK491 0
       have hfs35 := blk_frozen BK491.out 0
       have hns35_0 := NB488_491.out
       have hns35_1 := NB489_491.out
       have hns35_2 := NB490_491.out
       have hms35_0 := NB491_488.out
       have hms35_1 := NB491_489.out
       have hms35_2 := NB491_490.out
       have hs36 : w'.cell? ⟨gb491, 1, none⟩ = some (.int .i64 0) := bq BK491 1
       have hfs36 := blk_frozen BK491.out 1
       have hns36_0 := NB488_491.out
       have hns36_1 := NB489_491.out
       have hns36_2 := NB490_491.out
       have hms36_0 := NB491_488.out
       have hms36_1 := NB491_489.out
       have hms36_2 := NB491_490.out
       refine skip_ (w1 := ?_) (by rfl) rfl ?_ ?_
       rotate_left
       ·go_simp
        rfl
       refine hK.out _ _ ⟨gb488, gb489, gb490, gb491, m14_, m15_, m16_, m17_, (by rw [ha.out]; exact putSel_none (v := undef) rfl), bX, fun _ _ => NB489_488.out, fun _ _ => NB488_489.out, fun _ _ => NB490_488.out, fun _ _ => NB488_490.out, fun _ _ => NB491_488.out, fun _ _ => NB488_491.out, fun _ _ => NB490_489.out, fun _ _ => NB489_490.out, fun _ _ => NB491_489.out, fun _ _ => NB489_491.out, fun _ _ => NB491_490.out, fun _ _ => NB490_491.out, fun _ h1_ => absurd ((hon 18 (by kernel_rfl)).symm.trans h1_) (by decide), fun _ => GW488.out, fun _ => GE488.out, fun _ h1_ => absurd ((hon 19 (by kernel_rfl)).symm.trans h1_) (by decide), fun _ => GW489.out, fun _ => GE489.out, fun _ h1_ => absurd ((hon 20 (by kernel_rfl)).symm.trans h1_) (by decide), fun _ => GW490.out, fun _ => GE490.out, fun _ h1_ => absurd ((up_self b 21).symm.trans h1_) (by decide), fun _ => GW491.out, fun _ => GE491.out, fun _ => (by (repeat ((with_reducible repeat (first | refine blk_drewN ?_ _ | refine blk_drew ?_ | refine blk_alloc ?_ _)); refine blk_far ?_ NB488_491.out _)); (with_reducible repeat (first | refine blk_drewN ?_ _ | refine blk_drew ?_ | refine blk_alloc ?_ _)); exact BK488.out), fun _ => (by (repeat ((with_reducible repeat (first | refine blk_drewN ?_ _ | refine blk_drew ?_ | refine blk_alloc ?_ _)); refine blk_far ?_ NB489_491.out _)); (with_reducible repeat (first | refine blk_drewN ?_ _ | refine blk_drew ?_ | refine blk_alloc ?_ _)); exact BK489.out), fun _ => (by (repeat ((with_reducible repeat (first | refine blk_drewN ?_ _ | refine blk_drew ?_ | refine blk_alloc ?_ _)); refine blk_far ?_ NB490_491.out _)); (with_reducible repeat (first | refine blk_drewN ?_ _ | refine blk_drew ?_ | refine blk_alloc ?_ _)); exact BK490.out), fun _ => (by (with_reducible repeat (first | refine blk_drewN ?_ _ | refine blk_drew ?_ | refine blk_alloc ?_ _)); refine blk_put (cs := #[.int .i64 t486, .int .i64 0]) ?_ 1 _ rfl; (with_reducible repeat (first | refine blk_drewN ?_ _ | refine blk_drew ?_ | refine blk_alloc ?_ _)); refine blk_put (cs := #[.int .i64 0, .int .i64 0]) ?_ 0 _ rfl; (with_reducible repeat (first | refine blk_drewN ?_ _ | refine blk_drew ?_ | refine blk_alloc ?_ _)); exact BK491.out), Q_X14_, Q_X15_, Q_X16_, Q_X17_⟩
      exact steps_nil
     rintro b a w36 hall ⟨gb488, gb489, gb490, gb491, m14_, m15_, m16_, m17_, ha, Q_HB, Q_NB489_488, Q_NB488_489, Q_NB490_488, Q_NB488_490, Q_NB491_488, Q_NB488_491, Q_NB490_489, Q_NB489_490, Q_NB491_489, Q_NB489_491, Q_NB491_490, Q_NB490_491, Q_BK488, Q_GW488, Q_GE488, Q_BK489, Q_GW489, Q_GE489, Q_BK490, Q_GW490, Q_GE490, Q_BK491, Q_GW491, Q_GE491, Q_BK488_e18, Q_BK489_e19, Q_BK490_e20, Q_BK491_e21, Q_X14_, Q_X15_, Q_X16_, Q_X17_⟩
     clear HB
     have hb2_ := hall 2 (by kernel_rfl)
     have hb3_ := hall 3 (by kernel_rfl)
     have hb6_ := hall 6 (by kernel_rfl)
     have hb9_ := hall 9 (by kernel_rfl)
     have hb10_ := hall 10 (by kernel_rfl)
     have hb13_ := hall 13 (by kernel_rfl)
     have hb14_ := hall 14 (by kernel_rfl)
     have hb15_ := hall 15 (by kernel_rfl)
     have hb16_ := hall 16 (by kernel_rfl)
     have hb17_ := hall 17 (by kernel_rfl)
     have hb18_ := hall 18 (by kernel_rfl)
     have hb19_ := hall 19 (by kernel_rfl)
     have hb20_ := hall 20 (by kernel_rfl)
     have hb21_ := hall 21 (by kernel_rfl)
     subst ha
     obtain rfl := Q_X14_ hb14_
     obtain rfl := Q_X15_ hb15_
     obtain rfl := Q_X16_ hb16_
     obtain rfl := Q_X17_ hb17_
     simp only [putSel, hb2_, hb3_, hb6_, hb9_, hb10_, hb13_, hb14_, hb15_, hb16_, hb17_, hb18_, hb19_, hb20_, hb21_, if_true, Act.put, List.setIfInBounds_toArray, List.set_cons_zero, List.set_cons_succ]
     have HB := bA Q_HB
     clear Q_HB
     have NB489_488 := bA (Q_NB489_488 hb14_ hb15_)
     clear Q_NB489_488
     have NB488_489 := bA (Q_NB488_489 hb14_ hb15_)
     clear Q_NB488_489
     have NB490_488 := bA (Q_NB490_488 hb14_ hb16_)
     clear Q_NB490_488
     have NB488_490 := bA (Q_NB488_490 hb14_ hb16_)
     clear Q_NB488_490
     have NB491_488 := bA (Q_NB491_488 hb14_ hb17_)
     clear Q_NB491_488
     have NB488_491 := bA (Q_NB488_491 hb14_ hb17_)
     clear Q_NB488_491
     have NB490_489 := bA (Q_NB490_489 hb15_ hb16_)
     clear Q_NB490_489
     have NB489_490 := bA (Q_NB489_490 hb15_ hb16_)
     clear Q_NB489_490
     have NB491_489 := bA (Q_NB491_489 hb15_ hb17_)
     clear Q_NB491_489
     have NB489_491 := bA (Q_NB489_491 hb15_ hb17_)
     clear Q_NB489_491
     have NB491_490 := bA (Q_NB491_490 hb16_ hb17_)
     clear Q_NB491_490
     have NB490_491 := bA (Q_NB490_491 hb16_ hb17_)
     clear Q_NB490_491
     clear Q_BK488
     have GW488 := bA (Q_GW488 hb14_)
     clear Q_GW488
     have GE488 := bA (Q_GE488 hb14_)
     clear Q_GE488
     clear Q_BK489
     have GW489 := bA (Q_GW489 hb15_)
     clear Q_GW489
     have GE489 := bA (Q_GE489 hb15_)
     clear Q_GE489
     clear Q_BK490
     have GW490 := bA (Q_GW490 hb16_)
     clear Q_GW490
     have GE490 := bA (Q_GE490 hb16_)
     clear Q_GE490
     clear Q_BK491
     have GW491 := bA (Q_GW491 hb17_)
     clear Q_GW491
     have GE491 := bA (Q_GE491 hb17_)
     clear Q_GE491
     have BK488 := bA (Q_BK488_e18 hb18_)
     clear Q_BK488_e18
     have BK489 := bA (Q_BK489_e19 hb19_)
     clear Q_BK489_e19
     have BK490 := bA (Q_BK490_e20 hb20_)
     clear Q_BK490_e20
     have BK491 := bA (Q_BK491_e21 hb21_)
     clear Q_BK491_e21
     clear hall hb2_ hb3_ hb6_ hb9_ hb10_ hb13_ hb14_ hb15_ hb16_ hb17_ hb18_ hb19_ hb20_ hb21_
     go_upto_region 16 with (fail)
     go_cut [56] (fun v56 wc => ∃ (kq : Nat) (x56_19 : Bool), v56 = .bool x56_19 ∧ Aside0 (apogeeref11_Simple.j4 kq l0 (l0.length : Int) x5_3 x6_4 x56_19 ((rd_T28 l0 x5_3).f0) ((rd_T28 l0 x5_3).f1) t483 t484 ((rd_T28 l0 x6_4).f0) ((rd_T28 l0 x6_4).f1) t486 t487 = some r) ∧ Aside0 (kq ≤ k4) ∧ Aside0 (wc.heap[gb488]? = some (.cells #[.int .i64 ((rd_T28 l0 x5_3).f0), .int .i64 ((rd_T28 l0 x5_3).f1)] 28 (0, 0))) ∧ Aside0 (wc.heap[gb489]? = some (.cells #[.int .i64 t483, .int .i64 t484] 28 (0, 0))) ∧ Aside0 (wc.heap[gb490]? = some (.cells #[.int .i64 ((rd_T28 l0 x6_4).f0), .int .i64 ((rd_T28 l0 x6_4).f1)] 28 (0, 0))) ∧ Aside0 (wc.heap[gb491]? = some (.cells #[.int .i64 t486, .int .i64 t487] 28 (0, 0))) ∧ Aside0 (Below w.heap.size w wc))
     case first =>
      have H := HC20.out
      clear HC20
      have H' := bA H
      clear H
      have hnb37 := NB488_489.out
      have hnc37 := NB489_488.out
      have hnb38 := NB488_490.out
      have hnc38 := NB490_488.out
      have hnb39 := NB488_491.out
      have hnc39 := NB491_488.out
      obtain ⟨hcz40_0, hcz40_1, hfz40_0, hfz40_1⟩ := bc2 BK488
      have hnb41 := NB490_489.out
      have hnc41 := NB489_490.out
      have hnb42 := NB490_491.out
      have hnc42 := NB491_490.out
      obtain ⟨hcz43_0, hcz43_1, hfz43_0, hfz43_1⟩ := bc2 BK490
      go_wp2
      go_meet
      case rel => exact ⟨_, ((((rd_T28 l0 x5_3).f0) == ((rd_T28 l0 x6_4).f0) && (((rd_T28 l0 x5_3).f1) == ((rd_T28 l0 x6_4).f1)))), bs, H', ⟨by have := HJ1.out; have := HK2.out; have := HK3.out; have := HK4.out; first | omega | exact Nat.le_refl _⟩, ⟨by (with_reducible repeat (first | refine blk_drewN ?_ _ | refine blk_drew ?_ | refine blk_alloc ?_ _)); exact BK488.out⟩, ⟨by (with_reducible repeat (first | refine blk_drewN ?_ _ | refine blk_drew ?_ | refine blk_alloc ?_ _)); exact BK489.out⟩, ⟨by (with_reducible repeat (first | refine blk_drewN ?_ _ | refine blk_drew ?_ | refine blk_alloc ?_ _)); exact BK490.out⟩, ⟨by (with_reducible repeat (first | refine blk_drewN ?_ _ | refine blk_drew ?_ | refine blk_alloc ?_ _)); exact BK491.out⟩, ⟨bX⟩⟩
     clear HC20
     try clear p2
     try clear c3
     try clear c4
     try clear c6
     try clear c37
     try clear c38
     try clear c39
     try clear c41
     try clear c42
     try clear hcz40_0
     try clear hcz40_1
     try clear hcz43_0
     try clear hcz43_1
     try clear hfz40_0
     try clear hfz40_1
     try clear hfz43_0
     try clear hfz43_1
     obtain ⟨kq, x56_19, rfl, HA, HJ19, BK488, BK489, BK490, BK491, HB⟩ := hcut
     cases kq with
     | zero => exact absurd HA.out (by simp [apogeeref11_Simple.j4])
     | succ kj19 =>
      have H := HA.out
      clear HA
      simp only [apogeeref11_Simple.j4] at H
      by_cases c44 : x56_19 = true
      ·subst c44
       rw [if_pos rfl] at H
       obtain rfl := Option.some.inj H
       go_wp2
       go_ret
       exact bF
      replace c44 := Bool.eq_false_iff.mpr c44
      subst c44
      rw [if_neg bn] at H
      by_cases c45 : x6_4 = (wrap64 (x5_3 + 1))
      ·rw [if_pos c45] at H
       have c45b0 : (x6_4 == (wrap64 (x5_3 + 1))) = true := beq_iff_eq.mpr c45
       have c45b1 : (x6_4 != (wrap64 (x5_3 + 1))) = false := bne_eq_false_iff_eq.mpr c45
       clear c45
       replace H := Option.bind_eq_some_iff.mp H
       obtain ⟨t492, A460, H⟩ := H
       have A46 := bA A460
       clear A460
       by_cases c47 : t492 = true
       subst c47
       rw [if_pos rfl] at H
       obtain rfl := Option.some.inj H
       have hnb48 := NB491_488.out
       have hnc48 := NB488_491.out
       have hnb49 := NB491_489.out
       have hnc49 := NB489_491.out
       have hnb50 := NB491_490.out
       have hnc50 := NB490_491.out
       obtain ⟨hcz51_0, hcz51_1, hfz51_0, hfz51_1⟩ := bc2 BK491
       have hnb52 := NB488_489.out
       have hnc52 := NB489_488.out
       have hnb53 := NB488_490.out
       have hnc53 := NB490_488.out
       obtain ⟨hcz54_0, hcz54_1, hfz54_0, hfz54_1⟩ := bc2 BK488
       have hnb55 := NB489_490.out
       have hnc55 := NB490_489.out
       obtain ⟨hcz56_0, hcz56_1, hfz56_0, hfz56_1⟩ := bc2 BK489
       rotate_left
       replace c47 := Bool.eq_false_iff.mpr c47
       subst c47
       rw [if_neg bn] at H
       replace H := Option.bind_eq_some_iff.mp H
       obtain ⟨t493, A580, H⟩ := H
       have A58 := bA A580
       clear A580
       by_cases c59 : t493 = true
       subst c59
       rw [if_pos rfl] at H
       obtain rfl := Option.some.inj H
       have hnb60 := NB491_488.out
       have hnc60 := NB488_491.out
       have hnb61 := NB491_489.out
       have hnc61 := NB489_491.out
       have hnb62 := NB491_490.out
       have hnc62 := NB490_491.out
       obtain ⟨hcz63_0, hcz63_1, hfz63_0, hfz63_1⟩ := bc2 BK491
       have hnb64 := NB488_489.out
       have hnc64 := NB489_488.out
       have hnb65 := NB488_490.out
       have hnc65 := NB490_488.out
       obtain ⟨hcz66_0, hcz66_1, hfz66_0, hfz66_1⟩ := bc2 BK488
       have hnb67 := NB489_490.out
       have hnc67 := NB490_489.out
       obtain ⟨hcz68_0, hcz68_1, hfz68_0, hfz68_1⟩ := bc2 BK489
       rotate_left
       replace c59 := Bool.eq_false_iff.mpr c59
       subst c59
       rw [if_neg bn] at H
       have H' := bA H
       clear H
       have hnb74 := NB491_488.out
       have hnc74 := NB488_491.out
       have hnb75 := NB491_489.out
       have hnc75 := NB489_491.out
       have hnb76 := NB491_490.out
       have hnc76 := NB490_491.out
       obtain ⟨hcz77_0, hcz77_1, hfz77_0, hfz77_1⟩ := bc2 BK491
       have hnb78 := NB488_489.out
       have hnc78 := NB489_488.out
       have hnb79 := NB488_490.out
       have hnc79 := NB490_488.out
       obtain ⟨hcz80_0, hcz80_1, hfz80_0, hfz80_1⟩ := bc2 BK488
       have hnb81 := NB489_490.out
       have hnc81 := NB490_489.out
       obtain ⟨hcz82_0, hcz82_1, hfz82_0, hfz82_1⟩ := bc2 BK489
       rotate_left
       all_goals go_wp2_with (first | ((first | ((with_reducible refine gate_callee (f := 63) rfl ?_); refine bC (some 68) Try.func63 #[.agg #[.int .i64 t486, .int .i64 t487], .agg #[.int .i64 ((rd_T28 l0 x5_3).f0), .int .i64 ((rd_T28 l0 x5_3).f1)], .agg #[.int .i64 t483, .int .i64 t484]] ?_) | go_at_call 63); (with_reducible refine (apogeeref10_On.calls kj19 t486 t487 ((rd_T28 l0 x5_3).f0) ((rd_T28 l0 x5_3).f1) t483 t484 true _ A46.out).mono ?_); rintro e wz0 ⟨rfl, hb⟩; (first | refine ⟨_, rfl, ?_⟩ | skip); replace BK488 := bA (bB BK488 hb); replace BK489 := bA (bB BK489 hb); replace BK490 := bA (bB BK490 hb); replace BK491 := bA (bB BK491 hb); replace HB := bA (bS hb); (try clear hb)) | ((first | ((with_reducible refine gate_callee (f := 63) rfl ?_); refine bC (some 68) Try.func63 #[.agg #[.int .i64 t486, .int .i64 t487], .agg #[.int .i64 ((rd_T28 l0 x5_3).f0), .int .i64 ((rd_T28 l0 x5_3).f1)], .agg #[.int .i64 t483, .int .i64 t484]] ?_) | go_at_call 63); (with_reducible refine (apogeeref10_On.calls kj19 t486 t487 ((rd_T28 l0 x5_3).f0) ((rd_T28 l0 x5_3).f1) t483 t484 false _ A46.out).mono ?_); rintro e wz0 ⟨rfl, hb⟩; (first | refine ⟨_, rfl, ?_⟩ | skip); replace BK488 := bA (bB BK488 hb); replace BK489 := bA (bB BK489 hb); replace BK490 := bA (bB BK490 hb); replace BK491 := bA (bB BK491 hb); replace HB := bA (bS hb); (try clear hb); obtain ⟨hz1, hz2, hz3, hz4⟩ := bc2 BK488; obtain ⟨hz5, hz6, hz7, hz8⟩ := bc2 BK490; obtain ⟨hz9, hz10, hz11, hz12⟩ := bc2 BK491) | (go_at_call 63; (with_reducible refine (apogeeref10_On.calls kj19 ((rd_T28 l0 x5_3).f0) ((rd_T28 l0 x5_3).f1) ((rd_T28 l0 x6_4).f0) ((rd_T28 l0 x6_4).f1) t486 t487 true _ A58.out).mono ?_); rintro e wz1 ⟨rfl, hb⟩; replace BK488 := bA (bB BK488 hb); replace BK489 := bA (bB BK489 hb); replace BK490 := bA (bB BK490 hb); replace BK491 := bA (bB BK491 hb); replace HB := bA (bS hb); (try clear hb)) | (go_at_call 63; (with_reducible refine (apogeeref10_On.calls kj19 ((rd_T28 l0 x5_3).f0) ((rd_T28 l0 x5_3).f1) ((rd_T28 l0 x6_4).f0) ((rd_T28 l0 x6_4).f1) t486 t487 false _ A58.out).mono ?_); rintro e wz1 ⟨rfl, hb⟩; replace BK488 := bA (bB BK488 hb); replace BK489 := bA (bB BK489 hb); replace BK490 := bA (bB BK490 hb); replace BK491 := bA (bB BK491 hb); replace HB := bA (bS hb); (try clear hb)))
       ·go_ret
        exact bF
       ·go_ret
        exact bF
       go_roundg kj19
       case measure => have := HJ1.out; have := HK2.out; have := HK3.out; have := HK4.out; have := HJ19.out; omega
       case rel => exact ⟨(wrap64 (x6_4 + 1)), bs, H', ⟨by have := HJ1.out; have := HK2.out; have := HK3.out; have := HK4.out; have := HJ19.out; omega⟩, ⟨bX⟩⟩
      rw [if_neg c45] at H
      have c45b0 : (x6_4 == (wrap64 (x5_3 + 1))) = false := beq_eq_false_iff_ne.mpr c45
      have c45b1 : (x6_4 != (wrap64 (x5_3 + 1))) = true := bne_iff_ne.mpr c45
      have HC88 := bA H
      clear H
      go_upto_region 21 with (fail)
      go_cut [75] (fun v75 wc => ∃ (kq : Nat) (x75_87 : Bool), v75 = .bool x75_87 ∧ Aside0 (apogeeref11_Simple.j5 kq l0 (l0.length : Int) x5_3 x6_4 x75_87 ((rd_T28 l0 x5_3).f0) ((rd_T28 l0 x5_3).f1) t483 t484 ((rd_T28 l0 x6_4).f0) ((rd_T28 l0 x6_4).f1) t486 t487 = some r) ∧ Aside0 (kq ≤ kj19) ∧ Aside0 (wc.heap[gb488]? = some (.cells #[.int .i64 ((rd_T28 l0 x5_3).f0), .int .i64 ((rd_T28 l0 x5_3).f1)] 28 (0, 0))) ∧ Aside0 (wc.heap[gb489]? = some (.cells #[.int .i64 t483, .int .i64 t484] 28 (0, 0))) ∧ Aside0 (wc.heap[gb490]? = some (.cells #[.int .i64 ((rd_T28 l0 x6_4).f0), .int .i64 ((rd_T28 l0 x6_4).f1)] 28 (0, 0))) ∧ Aside0 (wc.heap[gb491]? = some (.cells #[.int .i64 t486, .int .i64 t487] 28 (0, 0))) ∧ Aside0 (Below w.heap.size w wc))
      case first =>
       have H := HC88.out
       clear HC88
       by_cases c89 : x5_3 = 0
       rw [if_pos c89] at H
       have c89b0 : (x5_3 == 0) = true := beq_iff_eq.mpr c89
       have c89b1 : (x5_3 != 0) = false := bne_eq_false_iff_eq.mpr c89
       clear c89
       (first | rw [c89b0] | (simp only [i64_w, i32_w]; rw [c89b0]) | skip)
       have H' := bA H
       clear H
       rotate_left
       rw [if_neg c89] at H
       have c89b0 : (x5_3 == 0) = false := beq_eq_false_iff_ne.mpr c89
       have c89b1 : (x5_3 != 0) = true := bne_iff_ne.mpr c89
       (first | rw [c89b0] | (simp only [i64_w, i32_w]; rw [c89b0]) | skip)
       have H' := bA H
       clear H
       rotate_left
       all_goals go_wp2
       ·go_meet
        case rel => exact ⟨_, ((x6_4 == (wrap64 ((l0.length : Int) - 1)))), bs, H', ⟨by have := HJ1.out; have := HK2.out; have := HK3.out; have := HK4.out; have := HJ19.out; first | omega | exact Nat.le_refl _⟩, ⟨by (with_reducible repeat (first | refine blk_drewN ?_ _ | refine blk_drew ?_ | refine blk_alloc ?_ _)); exact BK488.out⟩, ⟨by (with_reducible repeat (first | refine blk_drewN ?_ _ | refine blk_drew ?_ | refine blk_alloc ?_ _)); exact BK489.out⟩, ⟨by (with_reducible repeat (first | refine blk_drewN ?_ _ | refine blk_drew ?_ | refine blk_alloc ?_ _)); exact BK490.out⟩, ⟨by (with_reducible repeat (first | refine blk_drewN ?_ _ | refine blk_drew ?_ | refine blk_alloc ?_ _)); exact BK491.out⟩, ⟨bX⟩⟩
       go_meet
       case rel => exact ⟨_, (false), bs, H', ⟨by have := HJ1.out; have := HK2.out; have := HK3.out; have := HK4.out; have := HJ19.out; first | omega | exact Nat.le_refl _⟩, ⟨by (with_reducible repeat (first | refine blk_drewN ?_ _ | refine blk_drew ?_ | refine blk_alloc ?_ _)); exact BK488.out⟩, ⟨by (with_reducible repeat (first | refine blk_drewN ?_ _ | refine blk_drew ?_ | refine blk_alloc ?_ _)); exact BK489.out⟩, ⟨by (with_reducible repeat (first | refine blk_drewN ?_ _ | refine blk_drew ?_ | refine blk_alloc ?_ _)); exact BK490.out⟩, ⟨by (with_reducible repeat (first | refine blk_drewN ?_ _ | refine blk_drew ?_ | refine blk_alloc ?_ _)); exact BK491.out⟩, ⟨bX⟩⟩
      clear HC88
      try clear p2
      try clear c3
      try clear c4
      try clear c5
      try clear c6
      try clear p6
      try clear c7
      try clear c8
      try clear c37
      try clear c38
      try clear c39
      try clear c41
      try clear c42
      try clear c44
      try clear c45
      try clear c45b0
      try clear c45b1
      try clear c47
      try clear c48
      try clear c49
      try clear c50
      try clear c52
      try clear c53
      try clear c55
      try clear c59
      try clear c60
      try clear c61
      try clear c62
      try clear c63
      try clear c64
      try clear p64
      try clear c65
      try clear c67
      try clear c74
      try clear c75
      try clear c76
      try clear c78
      try clear c79
      try clear c81
      try clear c89
      try clear c89b0
      try clear c89b1
      try clear hcz40_0
      try clear hcz40_1
      try clear hcz43_0
      try clear hcz43_1
      try clear hcz51_0
      try clear hcz51_1
      try clear hcz54_0
      try clear hcz54_1
      try clear hcz56_0
      try clear hcz56_1
      try clear hcz63_0
      try clear hcz63_1
      try clear hcz66_0
      try clear hcz66_1
      try clear hcz68_0
      try clear hcz68_1
      try clear hcz70_0
      try clear hcz70_1
      try clear hcz71_0
      try clear hcz71_1
      try clear hcz72_0
      try clear hcz72_1
      try clear hcz77_0
      try clear hcz77_1
      try clear hcz80_0
      try clear hcz80_1
      try clear hcz82_0
      try clear hcz82_1
      try clear hcz84_0
      try clear hcz84_1
      try clear hcz85_0
      try clear hcz85_1
      try clear hcz86_0
      try clear hcz86_1
      try clear hfz40_0
      try clear hfz40_1
      try clear hfz43_0
      try clear hfz43_1
      try clear hfz51_0
      try clear hfz51_1
      try clear hfz54_0
      try clear hfz54_1
      try clear hfz56_0
      try clear hfz56_1
      try clear hfz63_0
      try clear hfz63_1
      try clear hfz66_0
      try clear hfz66_1
      try clear hfz68_0
      try clear hfz68_1
      try clear hfz70_0
      try clear hfz70_1
      try clear hfz71_0
      try clear hfz71_1
      try clear hfz72_0
      try clear hfz72_1
      try clear hfz77_0
      try clear hfz77_1
      try clear hfz80_0
      try clear hfz80_1
      try clear hfz82_0
      try clear hfz82_1
      try clear hfz84_0
      try clear hfz84_1
      try clear hfz85_0
      try clear hfz85_1
      try clear hfz86_0
      try clear hfz86_1
      try clear p2
      obtain ⟨kq, x75_87, rfl, HA, HJ87, BK488, BK489, BK490, BK491, HB⟩ := hcut
      cases kq with
      | zero => exact absurd HA.out (by simp [apogeeref11_Simple.j5])
      | succ kj87 =>
       have H := HA.out
       clear HA
       simp only [apogeeref11_Simple.j5] at H
       by_cases c90 : x75_87 = true
       subst c90
       rw [if_pos rfl] at H
       replace H := Option.bind_eq_some_iff.mp H
       obtain ⟨t494, A910, H⟩ := H
       have A91 := bA A910
       clear A910
       by_cases c92 : t494 = true
       subst c92
       rw [if_pos rfl] at H
       obtain rfl := Option.some.inj H
       have hnb93 := NB490_488.out
       have hnc93 := NB488_490.out
       have hnb94 := NB490_489.out
       have hnc94 := NB489_490.out
       have hnb95 := NB490_491.out
       have hnc95 := NB491_490.out
       obtain ⟨hcz96_0, hcz96_1, hfz96_0, hfz96_1⟩ := bc2 BK490
       have hnb97 := NB488_489.out
       have hnc97 := NB489_488.out
       have hnb98 := NB488_491.out
       have hnc98 := NB491_488.out
       obtain ⟨hcz99_0, hcz99_1, hfz99_0, hfz99_1⟩ := bc2 BK488
       have hnb100 := NB489_491.out
       have hnc100 := NB491_489.out
       obtain ⟨hcz101_0, hcz101_1, hfz101_0, hfz101_1⟩ := bc2 BK489
       rotate_left
       replace c92 := Bool.eq_false_iff.mpr c92
       subst c92
       rw [if_neg bn] at H
       replace H := Option.bind_eq_some_iff.mp H
       obtain ⟨t495, A1030, H⟩ := H
       have A103 := bA A1030
       clear A1030
       by_cases c104 : t495 = true
       subst c104
       rw [if_pos rfl] at H
       obtain rfl := Option.some.inj H
       have hnb105 := NB490_488.out
       have hnc105 := NB488_490.out
       have hnb106 := NB490_489.out
       have hnc106 := NB489_490.out
       have hnb107 := NB490_491.out
       have hnc107 := NB491_490.out
       obtain ⟨hcz108_0, hcz108_1, hfz108_0, hfz108_1⟩ := bc2 BK490
       have hnb109 := NB488_489.out
       have hnc109 := NB489_488.out
       have hnb110 := NB488_491.out
       have hnc110 := NB491_488.out
       obtain ⟨hcz111_0, hcz111_1, hfz111_0, hfz111_1⟩ := bc2 BK488
       have hnb112 := NB489_491.out
       have hnc112 := NB491_489.out
       obtain ⟨hcz113_0, hcz113_1, hfz113_0, hfz113_1⟩ := bc2 BK489
       rotate_left
       replace c104 := Bool.eq_false_iff.mpr c104
       subst c104
       rw [if_neg bn] at H
       have H' := bA H
       clear H
       have hnb119 := NB490_488.out
       have hnc119 := NB488_490.out
       have hnb120 := NB490_489.out
       have hnc120 := NB489_490.out
       have hnb121 := NB490_491.out
       have hnc121 := NB491_490.out
       obtain ⟨hcz122_0, hcz122_1, hfz122_0, hfz122_1⟩ := bc2 BK490
       have hnb123 := NB488_489.out
       have hnc123 := NB489_488.out
       have hnb124 := NB488_491.out
       have hnc124 := NB491_488.out
       obtain ⟨hcz125_0, hcz125_1, hfz125_0, hfz125_1⟩ := bc2 BK488
       have hnb126 := NB489_491.out
       have hnc126 := NB491_489.out
       obtain ⟨hcz127_0, hcz127_1, hfz127_0, hfz127_1⟩ := bc2 BK489
       rotate_left
       replace c90 := Bool.eq_false_iff.mpr c90
       subst c90
       rw [if_neg bn] at H
       replace H := Option.bind_eq_some_iff.mp H
       obtain ⟨t496, A1330, H⟩ := H
       have A133 := bA A1330
       clear A1330
       by_cases c134 : t496 = true
       subst c134
       rw [if_pos rfl] at H
       obtain rfl := Option.some.inj H
       have hnb135 := NB488_489.out
       have hnc135 := NB489_488.out
       have hnb136 := NB488_490.out
       have hnc136 := NB490_488.out
       have hnb137 := NB488_491.out
       have hnc137 := NB491_488.out
       obtain ⟨hcz138_0, hcz138_1, hfz138_0, hfz138_1⟩ := bc2 BK488
       have hnb139 := NB489_490.out
       have hnc139 := NB490_489.out
       have hnb140 := NB489_491.out
       have hnc140 := NB491_489.out
       obtain ⟨hcz141_0, hcz141_1, hfz141_0, hfz141_1⟩ := bc2 BK489
       have hnb142 := NB490_491.out
       have hnc142 := NB491_490.out
       obtain ⟨hcz143_0, hcz143_1, hfz143_0, hfz143_1⟩ := bc2 BK490
       obtain ⟨hcz144_0, hcz144_1, hfz144_0, hfz144_1⟩ := bc2 BK491
       rotate_left
       replace c134 := Bool.eq_false_iff.mpr c134
       subst c134
       rw [if_neg bn] at H
       have H' := bA H
       clear H
       have hnb146 := NB488_489.out
       have hnc146 := NB489_488.out
       have hnb147 := NB488_490.out
       have hnc147 := NB490_488.out
       have hnb148 := NB488_491.out
       have hnc148 := NB491_488.out
       obtain ⟨hcz149_0, hcz149_1, hfz149_0, hfz149_1⟩ := bc2 BK488
       have hnb150 := NB489_490.out
       have hnc150 := NB490_489.out
       have hnb151 := NB489_491.out
       have hnc151 := NB491_489.out
       obtain ⟨hcz152_0, hcz152_1, hfz152_0, hfz152_1⟩ := bc2 BK489
       have hnb153 := NB490_491.out
       have hnc153 := NB491_490.out
       obtain ⟨hcz154_0, hcz154_1, hfz154_0, hfz154_1⟩ := bc2 BK490
       obtain ⟨hcz155_0, hcz155_1, hfz155_0, hfz155_1⟩ := bc2 BK491
       rotate_left
       all_goals go_wp2_with (first | ((first | ((with_reducible refine gate_callee (f := 63) rfl ?_); refine bC (some 87) Try.func63 #[.agg #[.int .i64 ((rd_T28 l0 x6_4).f0), .int .i64 ((rd_T28 l0 x6_4).f1)], .agg #[.int .i64 ((rd_T28 l0 x5_3).f0), .int .i64 ((rd_T28 l0 x5_3).f1)], .agg #[.int .i64 t483, .int .i64 t484]] ?_) | go_at_call 63); (with_reducible refine (apogeeref10_On.calls kj87 ((rd_T28 l0 x6_4).f0) ((rd_T28 l0 x6_4).f1) ((rd_T28 l0 x5_3).f0) ((rd_T28 l0 x5_3).f1) t483 t484 true _ A91.out).mono ?_); rintro e wz0 ⟨rfl, hb⟩; (first | refine ⟨_, rfl, ?_⟩ | skip); replace BK488 := bA (bB BK488 hb); replace BK489 := bA (bB BK489 hb); replace BK490 := bA (bB BK490 hb); replace BK491 := bA (bB BK491 hb); replace HB := bA (bS hb); (try clear hb)) | ((first | ((with_reducible refine gate_callee (f := 63) rfl ?_); refine bC (some 87) Try.func63 #[.agg #[.int .i64 ((rd_T28 l0 x6_4).f0), .int .i64 ((rd_T28 l0 x6_4).f1)], .agg #[.int .i64 ((rd_T28 l0 x5_3).f0), .int .i64 ((rd_T28 l0 x5_3).f1)], .agg #[.int .i64 t483, .int .i64 t484]] ?_) | go_at_call 63); (with_reducible refine (apogeeref10_On.calls kj87 ((rd_T28 l0 x6_4).f0) ((rd_T28 l0 x6_4).f1) ((rd_T28 l0 x5_3).f0) ((rd_T28 l0 x5_3).f1) t483 t484 false _ A91.out).mono ?_); rintro e wz0 ⟨rfl, hb⟩; (first | refine ⟨_, rfl, ?_⟩ | skip); replace BK488 := bA (bB BK488 hb); replace BK489 := bA (bB BK489 hb); replace BK490 := bA (bB BK490 hb); replace BK491 := bA (bB BK491 hb); replace HB := bA (bS hb); (try clear hb); obtain ⟨hz1, hz2, hz3, hz4⟩ := bc2 BK489; obtain ⟨hz5, hz6, hz7, hz8⟩ := bc2 BK490; obtain ⟨hz9, hz10, hz11, hz12⟩ := bc2 BK491) | (go_at_call 63; (with_reducible refine (apogeeref10_On.calls kj87 t483 t484 ((rd_T28 l0 x6_4).f0) ((rd_T28 l0 x6_4).f1) t486 t487 true _ A103.out).mono ?_); rintro e wz1 ⟨rfl, hb⟩; replace BK488 := bA (bB BK488 hb); replace BK489 := bA (bB BK489 hb); replace BK490 := bA (bB BK490 hb); replace BK491 := bA (bB BK491 hb); replace HB := bA (bS hb); (try clear hb)) | (go_at_call 63; (with_reducible refine (apogeeref10_On.calls kj87 t483 t484 ((rd_T28 l0 x6_4).f0) ((rd_T28 l0 x6_4).f1) t486 t487 false _ A103.out).mono ?_); rintro e wz1 ⟨rfl, hb⟩; replace BK488 := bA (bB BK488 hb); replace BK489 := bA (bB BK489 hb); replace BK490 := bA (bB BK490 hb); replace BK491 := bA (bB BK491 hb); replace HB := bA (bS hb); (try clear hb)) | ((first | ((with_reducible refine gate_callee (f := 64) rfl ?_); refine bC (some 99) Try.func64 #[.agg #[.int .i64 ((rd_T28 l0 x5_3).f0), .int .i64 ((rd_T28 l0 x5_3).f1)], .agg #[.int .i64 t483, .int .i64 t484], .agg #[.int .i64 ((rd_T28 l0 x6_4).f0), .int .i64 ((rd_T28 l0 x6_4).f1)], .agg #[.int .i64 t486, .int .i64 t487]] ?_) | go_at_call 64); (with_reducible refine (apogeeref10_Meet.calls kj87 ((rd_T28 l0 x5_3).f0) ((rd_T28 l0 x5_3).f1) t483 t484 ((rd_T28 l0 x6_4).f0) ((rd_T28 l0 x6_4).f1) t486 t487 true _ A133.out).mono ?_); rintro e wz0 ⟨rfl, hb⟩; (first | refine ⟨_, rfl, ?_⟩ | skip); replace BK488 := bA (bB BK488 hb); replace BK489 := bA (bB BK489 hb); replace BK490 := bA (bB BK490 hb); replace BK491 := bA (bB BK491 hb); replace HB := bA (bS hb); (try clear hb)) | ((first | ((with_reducible refine gate_callee (f := 64) rfl ?_); refine bC (some 99) Try.func64 #[.agg #[.int .i64 ((rd_T28 l0 x5_3).f0), .int .i64 ((rd_T28 l0 x5_3).f1)], .agg #[.int .i64 t483, .int .i64 t484], .agg #[.int .i64 ((rd_T28 l0 x6_4).f0), .int .i64 ((rd_T28 l0 x6_4).f1)], .agg #[.int .i64 t486, .int .i64 t487]] ?_) | go_at_call 64); (with_reducible refine (apogeeref10_Meet.calls kj87 ((rd_T28 l0 x5_3).f0) ((rd_T28 l0 x5_3).f1) t483 t484 ((rd_T28 l0 x6_4).f0) ((rd_T28 l0 x6_4).f1) t486 t487 false _ A133.out).mono ?_); rintro e wz0 ⟨rfl, hb⟩; (first | refine ⟨_, rfl, ?_⟩ | skip); replace BK488 := bA (bB BK488 hb); replace BK489 := bA (bB BK489 hb); replace BK490 := bA (bB BK490 hb); replace BK491 := bA (bB BK491 hb); replace HB := bA (bS hb); (try clear hb)))
       ·go_ret
        exact bF
       ·go_ret
        exact bF
       ·go_roundg kj87
        case measure => have := HJ1.out; have := HK2.out; have := HK3.out; have := HK4.out; have := HJ19.out; have := HJ87.out; omega
        case rel => exact ⟨(wrap64 (x6_4 + 1)), bs, H', ⟨by have := HJ1.out; have := HK2.out; have := HK3.out; have := HK4.out; have := HJ19.out; have := HJ87.out; omega⟩, ⟨bX⟩⟩
       ·go_ret
        exact bF
       go_roundg kj87
       case measure => have := HJ1.out; have := HK2.out; have := HK3.out; have := HK4.out; have := HJ19.out; have := HJ87.out; omega
       case rel => exact ⟨(wrap64 (x6_4 + 1)), bs, H', ⟨by have := HJ1.out; have := HK2.out; have := HK3.out; have := HK4.out; have := HJ19.out; have := HJ87.out; omega⟩, ⟨bX⟩⟩
end Go.Proofs.Ytfeekdoakoabeaa.G
