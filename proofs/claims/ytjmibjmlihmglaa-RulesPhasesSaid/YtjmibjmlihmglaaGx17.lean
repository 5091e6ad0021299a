-- Written by a program of this session out of the translation; Lean checks it.
import Derived.Test.YtjmibjmlihmglaaGx0
import Derived.Test.YtjmibjmlihmglaaGx1
import Derived.Test.YtjmibjmlihmglaaGx12
import Derived.Test.YtjmibjmlihmglaaGx15
import Derived.Test.YtjmibjmlihmglaaGx16
namespace Go.Proofs.Ytjmibjmlihmglaa.G
open Go.RowKit Go.Proofs.YtjmibjmlihmglaaW.PrintWords Go.Proofs.YtjmibjmlihmglaaW.PrintLast Go.Proofs.YtjmibjmlihmglaaW.PrintMore
attribute [local go_sem] max2_int min2_int max_two min_two max_three min_three max_four min_four   -- for this text's walks alone
set_option linter.unusedVariables false
set_option linter.unusedSimpArgs false

attribute [local go_sem high] eqA41
/-! ### apogeeref11_Simple: function 30 -/
mutual
def apogeeref11_Simple.j0 : Nat → List (S41) → Int → Bool → Option (Bool)
 | 0, _, _, _ => none
 | k + 1, x0, x3, x18 => if x18 = true then (some false) else (apogeeref11_Simple.l0 k x0 x3 0)
def apogeeref11_Simple.l0 : Nat → List (S41) → Int → Int → Option (Bool)
 | 0, _, _, _ => none
 | k + 1, x0, x3, x4 => if x4 < x3 then (if 0 ≤ x4 then (if x4 < (x0.length : Int) then ((apogeeref10_Right.f ((rd_T41 x0 x4).f0) ((rd_T41 x0 x4).f1)).bind fun t445 => (if t445 = true then (apogeeref11_Simple.l0 k x0 x3 (wrap64 (x4 + 1))) else (some false))) else (none)) else (none)) else (apogeeref11_Simple.l1 k x0 x3 0)
def apogeeref11_Simple.l1 : Nat → List (S41) → Int → Int → Option (Bool)
 | 0, _, _, _ => none
 | k + 1, x0, x3, x5 => if x5 < x3 then (apogeeref11_Simple.l2 k x0 x3 x5 (wrap64 (x5 + 1))) else (some true)
def apogeeref11_Simple.l2 : Nat → List (S41) → Int → Int → Int → Option (Bool)
 | 0, _, _, _, _ => none
 | k + 1, x0, x3, x5, x6 => if x6 < x3 then (if 0 ≤ x5 then (if x5 < (x0.length : Int) then ((apogeeref11_next.f x0 x5).bind fun bt447 => (if 0 ≤ x6 then (if x6 < (x0.length : Int) then ((apogeeref11_next.f x0 x6).bind fun bt450 => (apogeeref11_Simple.j4 k x0 x3 x5 x6 (((rd_T41 x0 x5).f0) == ((rd_T41 x0 x6).f0) && (((rd_T41 x0 x5).f1) == ((rd_T41 x0 x6).f1))) ((rd_T41 x0 x5).f0) ((rd_T41 x0 x5).f1) bt447.1 bt447.2 ((rd_T41 x0 x6).f0) ((rd_T41 x0 x6).f1) bt450.1 bt450.2)) else (none)) else (none))) else (none)) else (none)) else (apogeeref11_Simple.l1 k x0 x3 (wrap64 (x5 + 1)))
def apogeeref11_Simple.j4 : Nat → List (S41) → Int → Int → Int → Bool → Int → Int → Int → Int → Int → Int → Int → Int → Option (Bool)
 | 0, _, _, _, _, _, _, _, _, _, _, _, _, _ => none
 | k + 1, x0, x3, x5, x6, x56, x453000, x453001, x454000, x454001, x455000, x455001, x456000, x456001 => if x56 = true then (some false) else (if x6 = (wrap64 (x5 + 1)) then ((apogeeref10_On.f k x456000 x456001 x453000 x453001 x454000 x454001).bind fun t456 => (if t456 = true then (some false) else ((apogeeref10_On.f k x453000 x453001 x455000 x455001 x456000 x456001).bind fun t457 => (if t457 = true then (some false) else (apogeeref11_Simple.l2 k x0 x3 x5 (wrap64 (x6 + 1))))))) else (if x5 = 0 then (apogeeref11_Simple.j5 k x0 x3 x5 x6 (x6 == (wrap64 (x3 - 1))) x453000 x453001 x454000 x454001 x455000 x455001 x456000 x456001) else (apogeeref11_Simple.j5 k x0 x3 x5 x6 false x453000 x453001 x454000 x454001 x455000 x455001 x456000 x456001)))
def apogeeref11_Simple.j5 : Nat → List (S41) → Int → Int → Int → Bool → Int → Int → Int → Int → Int → Int → Int → Int → Option (Bool)
 | 0, _, _, _, _, _, _, _, _, _, _, _, _, _ => none
 | k + 1, x0, x3, x5, x6, x75, x453000, x453001, x454000, x454001, x455000, x455001, x456000, x456001 => if x75 = true then ((apogeeref10_On.f k x455000 x455001 x453000 x453001 x454000 x454001).bind fun t458 => (if t458 = true then (some false) else ((apogeeref10_On.f k x454000 x454001 x455000 x455001 x456000 x456001).bind fun t459 => (if t459 = true then (some false) else (apogeeref11_Simple.l2 k x0 x3 x5 (wrap64 (x6 + 1))))))) else ((apogeeref10_Meet.f k x453000 x453001 x454000 x454001 x455000 x455001 x456000 x456001).bind fun t460 => (if t460 = true then (some false) else (apogeeref11_Simple.l2 k x0 x3 x5 (wrap64 (x6 + 1)))))
end
def apogeeref11_Simple.f (k : Nat) (l0 : List (S41)) : Option (Bool) := if (l0.length : Int) < 3 then (apogeeref11_Simple.j0 k l0 (l0.length : Int) true) else (apogeeref11_Simple.j0 k l0 (l0.length : Int) (decide ((l0.length : Int) > 8)))
theorem apogeeref11_Simple.mono_l : ∀ k, (∀ y0 y1 y2, LeO (apogeeref11_Simple.j0 k y0 y1 y2) (apogeeref11_Simple.j0 (k + 1) y0 y1 y2)) ∧ (∀ y0 y1 y2, LeO (apogeeref11_Simple.l0 k y0 y1 y2) (apogeeref11_Simple.l0 (k + 1) y0 y1 y2)) ∧ (∀ y0 y1 y2, LeO (apogeeref11_Simple.l1 k y0 y1 y2) (apogeeref11_Simple.l1 (k + 1) y0 y1 y2)) ∧ (∀ y0 y1 y2 y3, LeO (apogeeref11_Simple.l2 k y0 y1 y2 y3) (apogeeref11_Simple.l2 (k + 1) y0 y1 y2 y3)) ∧ (∀ y0 y1 y2 y3 y4 y5 y6 y7 y8 y9 y10 y11 y12, LeO (apogeeref11_Simple.j4 k y0 y1 y2 y3 y4 y5 y6 y7 y8 y9 y10 y11 y12) (apogeeref11_Simple.j4 (k + 1) y0 y1 y2 y3 y4 y5 y6 y7 y8 y9 y10 y11 y12)) ∧ (∀ y0 y1 y2 y3 y4 y5 y6 y7 y8 y9 y10 y11 y12, LeO (apogeeref11_Simple.j5 k y0 y1 y2 y3 y4 y5 y6 y7 y8 y9 y10 y11 y12) (apogeeref11_Simple.j5 (k + 1) y0 y1 y2 y3 y4 y5 y6 y7 y8 y9 y10 y11 y12))
 | 0 => ⟨fun _ _ _ r h => by simp [apogeeref11_Simple.j0] at h, fun _ _ _ r h => by simp [apogeeref11_Simple.l0] at h, fun _ _ _ r h => by simp [apogeeref11_Simple.l1] at h, fun _ _ _ _ r h => by simp [apogeeref11_Simple.l2] at h, fun _ _ _ _ _ _ _ _ _ _ _ _ _ r h => by simp [apogeeref11_Simple.j4] at h, fun _ _ _ _ _ _ _ _ _ _ _ _ _ r h => by simp [apogeeref11_Simple.j5] at h⟩
 | k + 1 => by
  obtain ⟨ih0, ih1, ih2, ih3, ih4, ih5⟩ := apogeeref11_Simple.mono_l k
  refine ⟨?_, ?_, ?_, ?_, ?_, ?_⟩
  ·intro y0 y1 y2
   unfold apogeeref11_Simple.j0
   have m0_ := @apogeeref10_Meet.mono
   have m1_ := @apogeeref10_On.mono
   exact bMo
  ·intro y0 y1 y2
   unfold apogeeref11_Simple.l0
   have m0_ := @apogeeref10_Meet.mono
   have m1_ := @apogeeref10_On.mono
   exact bMo
  ·intro y0 y1 y2
   unfold apogeeref11_Simple.l1
   have m0_ := @apogeeref10_Meet.mono
   have m1_ := @apogeeref10_On.mono
   exact bMo
  ·intro y0 y1 y2 y3
   unfold apogeeref11_Simple.l2
   have m0_ := @apogeeref10_Meet.mono
   have m1_ := @apogeeref10_On.mono
   exact bMo
  ·intro y0 y1 y2 y3 y4 y5 y6 y7 y8 y9 y10 y11 y12
   unfold apogeeref11_Simple.j4
   have m0_ := @apogeeref10_Meet.mono
   have m1_ := @apogeeref10_On.mono
   exact bMo
  ·intro y0 y1 y2 y3 y4 y5 y6 y7 y8 y9 y10 y11 y12
   unfold apogeeref11_Simple.j5
   have m0_ := @apogeeref10_Meet.mono
   have m1_ := @apogeeref10_On.mono
   exact bMo
theorem apogeeref11_Simple.mono : ∀ a0 k, LeO (apogeeref11_Simple.f k a0) (apogeeref11_Simple.f (k + 1) a0) := by
 intro a0 k
 obtain ⟨ih0, ih1, ih2, ih3, ih4, ih5⟩ := apogeeref11_Simple.mono_l k
 unfold apogeeref11_Simple.f
 have m0_ := @apogeeref10_Meet.mono
 have m1_ := @apogeeref10_On.mono
 exact bMo
def apogeeref11_Simple.T15 : Bool × List (List Nat × List Nat) := (true, [([], []), ([], []), ([0, 1], [0, 1]), ([2], [2]), ([], []), ([], []), ([4, 5], [4, 5]), ([], []), ([], []), ([7, 8], [7, 8]), ([9], [9]), ([], []), ([], []), ([11, 12, 6], [11, 12]), ([], []), ([], []), ([], []), ([], []), ([14, 3, 13, 0, 1, 2, 3, 14, 15, 16, 17], [3, 14]), ([15, 6, 18, 0, 1, 2, 3, 4, 5, 6, 14, 15, 16, 17, 18], [6, 15]), ([16, 10, 19, 0, 1, 2, 3, 4, 5, 6, 7, 8, 9, 10, 14, 15, 16, 17, 18, 19], [10, 16]), ([17, 13, 20, 0, 1, 2, 3, 4, 5, 6, 7, 8, 9, 10, 11, 12, 13, 14, 15, 16, 17, 18, 19, 20], [13, 17])])
def apogeeref11_Simple.B15 : List Nat := [0, 0, 3, 7, 0, 0, 48, 0, 0, 384, 896, 0, 0, 6256, 0, 0, 0, 0, 260223, 522367, 1048575, 2097151]
theorem apogeeref11_Simple.tab15 : rtab .any (opsOf Try.f30 15) = apogeeref11_Simple.T15 := by kernel_rfl
theorem apogeeref11_Simple.bits15 : waitsOk apogeeref11_Simple.T15.2 apogeeref11_Simple.B15 = true := by kernel_rfl
set_option maxHeartbeats 8000000 in
set_option maxRecDepth 100000 in
theorem apogeeref11_Simple.calls (k : Nat) (A0 : Option Addr) (c0 : Nat) (l0 : List (S41)) (r : Bool) (w : World) (hr0 : Kd.C k41 w A0 l0.length l0) (hc0 : l0.length ≤ c0) (h : apogeeref11_Simple.f k l0 = some r) :
  Calls Try.prog 30 #[.slice A0 l0.length c0] w fun e w' => e = .returned (.bool r) ∧ Below w.heap.size w w' := by
 have hu41 := Try.underlying41
 have HR0 := bA hr0
 have HC0 := bA hc0
 clear hr0 hc0
 have HB := bA (Below.refl w.heap.size w)
 have H : (if (l0.length : Int) < 3 then (apogeeref11_Simple.j0 k l0 (l0.length : Int) true) else (apogeeref11_Simple.j0 k l0 (l0.length : Int) (decide ((l0.length : Int) > 8)))) = some r := h
 clear h
 have HC2 := bA H
 clear H
 go_enter Try.func30, Try.ntmps30
 go_upto_region 2 with (fail)
 go_cut [18] (fun v18 wc => ∃ (kq : Nat) (x18_1 : Bool), v18 = .bool x18_1 ∧ Aside0 (apogeeref11_Simple.j0 kq l0 (l0.length : Int) x18_1 = some r) ∧ Aside0 (kq ≤ k) ∧ Aside0 (Below w.heap.size w wc))
 case first =>
  have H := HC2.out
  clear HC2
  by_cases c3 : (l0.length : Int) < 3
  rw [if_pos c3] at H
  have c3b0 : decide ((l0.length : Int) < 3) = true := decide_eq_true c3
  have c3b1 : decide (l0.length < 3) = true := decide_eq_true (by omega)
  clear c3
  (first | rw [c3b0] | (simp only [i64_w, i32_w]; rw [c3b0]) | skip)
  have H' := bA H
  clear H
  rotate_left
  rw [if_neg c3] at H
  have c3b0 : decide ((l0.length : Int) < 3) = false := decide_eq_false c3
  have c3b1 : decide (l0.length < 3) = false := decide_eq_false (by omega)
  clear c3
  (first | rw [c3b0] | (simp only [i64_w, i32_w]; rw [c3b0]) | skip)
  have H' := bA H
  clear H
  rotate_left
  all_goals go_wp2
  ·go_meet
   case rel => exact ⟨_, (true), bs, H', ⟨by first | omega | exact Nat.le_refl _⟩, ⟨bX⟩⟩
  go_meet
  case rel => exact ⟨_, (decide ((l0.length : Int) > 8)), bs, H', ⟨by first | omega | exact Nat.le_refl _⟩, ⟨bX⟩⟩
 clear HC2
 try clear p2
 try clear c3
 try clear c3b0
 try clear c3b1
 obtain ⟨kq, x18_1, rfl, HA, HJ1, HB⟩ := hcut
 cases kq with
 | zero => exact absurd HA.out (by simp [apogeeref11_Simple.j0])
 | succ kj1 =>
  have H := HA.out
  clear HA
  simp only [apogeeref11_Simple.j0] at H
  by_cases c4 : x18_1 = true
  ·subst c4
   rw [if_pos rfl] at H
   obtain rfl := Option.some.inj H
   go_wp2
   go_ret
   exact bF
  replace c4 := Bool.eq_false_iff.mpr c4
  subst c4
  rw [if_neg bn] at H
  have H' := bA H
  clear H
  go_wp2
  go_loopg [4] kj1 (fun kq v4 w' => ∃ (x4_2 : Int), v4 = .int .i64 x4_2 ∧ Aside0 (apogeeref11_Simple.l0 kq l0 (l0.length : Int) x4_2 = some r) ∧ Aside0 (kq ≤ kj1) ∧ Aside0 (Below w.heap.size w w'))
  case atStart => exact ⟨(0), bs, H', ⟨Nat.le_refl _⟩, ⟨bX⟩⟩
  clear H'
  try clear p2
  try clear c3
  try clear c3b0
  try clear c3b1
  try clear c4
  try clear p2
  obtain ⟨x4_2, rfl, HA, HK2, HB⟩ := hrel
  cases gk with
  | zero => exact absurd HA.out (by simp [apogeeref11_Simple.l0])
  | succ k2 =>
   have H := HA.out
   clear HA
   simp only [apogeeref11_Simple.l0] at H
   by_cases c5 : x4_2 < (l0.length : Int)
   ·rw [if_pos c5] at H
    have c5b0 : decide (x4_2 < (l0.length : Int)) = true := decide_eq_true c5
    clear c5
    by_cases c6 : 0 ≤ x4_2
    rw [if_pos c6] at H
    have c6b0 : decide (0 ≤ x4_2) = true := decide_eq_true c6
    clear c6
    by_cases c7 : x4_2 < (l0.length : Int)
    rw [if_pos c7] at H
    have c7b0 : decide (x4_2 < (l0.length : Int)) = true := decide_eq_true c7
    clear c7
    replace H := Option.bind_eq_some_iff.mp H
    obtain ⟨t445, A80, H⟩ := H
    have A8 := bA A80
    clear A80
    by_cases c9 : t445 = true
    subst c9
    rw [if_pos rfl] at H
    have H' := bA H
    clear H
    have p444 : 0 ≤ (x4_2 : Int) := bo
    have q444 : x4_2 < (l0.length : Int) := bo
    obtain ⟨ad444, e444, hx444_0, hx444_1⟩ := at_T41 HR0.out x4_2 p444 q444
    cases e444
    replace hx444_0 := bK hx444_0
    replace hx444_1 := bK hx444_1
    replace p444 := eq_true p444
    replace q444 := eq_true q444
    rotate_left
    replace c9 := Bool.eq_false_iff.mpr c9
    subst c9
    rw [if_neg bn] at H
    obtain rfl := Option.some.inj H
    have p444 : 0 ≤ (x4_2 : Int) := bo
    have q444 : x4_2 < (l0.length : Int) := bo
    obtain ⟨ad444, e444, hx444_0, hx444_1⟩ := at_T41 HR0.out x4_2 p444 q444
    cases e444
    replace hx444_0 := bK hx444_0
    replace hx444_1 := bK hx444_1
    replace p444 := eq_true p444
    replace q444 := eq_true q444
    rotate_left
    rw [if_neg c7] at H
    exact absurd H (by simp)
    rw [if_neg c6] at H
    exact absurd H (by simp)
    all_goals go_wp2_with (first | ((first | ((with_reducible refine gate_callee (f := 40) rfl ?_); refine bC (some 28) Try.func40 #[.agg #[.int .i64 ((rd_T41 l0 x4_2).f0), .int .i64 ((rd_T41 l0 x4_2).f1)]] ?_) | go_at_call 40); (with_reducible refine (apogeeref10_Right.calls ((rd_T41 l0 x4_2).f0) ((rd_T41 l0 x4_2).f1) true _ A8.out).mono ?_); rintro e wz0 ⟨rfl, hb⟩; (first | refine ⟨_, rfl, ?_⟩ | skip); replace HB := bA (bS hb); (try clear hb)) | ((first | ((with_reducible refine gate_callee (f := 40) rfl ?_); refine bC (some 28) Try.func40 #[.agg #[.int .i64 ((rd_T41 l0 x4_2).f0), .int .i64 ((rd_T41 l0 x4_2).f1)]] ?_) | go_at_call 40); (with_reducible refine (apogeeref10_Right.calls ((rd_T41 l0 x4_2).f0) ((rd_T41 l0 x4_2).f1) false _ A8.out).mono ?_); rintro e wz0 ⟨rfl, hb⟩; (first | refine ⟨_, rfl, ?_⟩ | skip); replace HB := bA (bS hb); (try clear hb)))
    ·go_roundg k2
     case measure => have := HJ1.out; have := HK2.out; omega
     case rel => exact ⟨(wrap64 (x4_2 + 1)), bs, H', ⟨by have := HJ1.out; have := HK2.out; omega⟩, ⟨bX⟩⟩
    go_ret
    exact bF
   rw [if_neg c5] at H
   have c5b0 : decide (x4_2 < (l0.length : Int)) = false := decide_eq_false c5
   clear c5
   have H' := bA H
   clear H
   go_wp2
   go_loopg [5] k2 (fun kq v5 w' => ∃ (x5_3 : Int), v5 = .int .i64 x5_3 ∧ Aside0 (apogeeref11_Simple.l1 kq l0 (l0.length : Int) x5_3 = some r) ∧ Aside0 (kq ≤ k2) ∧ Aside0 (Below w.heap.size w w'))
   case atStart => exact ⟨(0), bs, H', ⟨Nat.le_refl _⟩, ⟨bX⟩⟩
   clear H'
   try clear p2
   try clear c3
   try clear c3b0
   try clear c3b1
   try clear c4
   try clear p4
   try clear q4
   try clear hx4
   try clear c5
   try clear c5b0
   try clear c6
   try clear c6b0
   try clear p6
   try clear c7
   try clear c7b0
   try clear c9
   try clear hx444_0
   try clear hx444_1
   try clear p2
   try clear p444
   try clear q444
   obtain ⟨x5_3, rfl, HA, HK3, HB⟩ := hrel
   cases gk with
   | zero => exact absurd HA.out (by simp [apogeeref11_Simple.l1])
   | succ k3 =>
    have H := HA.out
    clear HA
    simp only [apogeeref11_Simple.l1] at H
    by_cases c12 : x5_3 < (l0.length : Int)
    rotate_left
    ·rw [if_neg c12] at H
     have c12b0 : decide (x5_3 < (l0.length : Int)) = false := decide_eq_false c12
     clear c12
     obtain rfl := Option.some.inj H
     go_wp2
     go_ret
     exact bF
    rw [if_pos c12] at H
    have c12b0 : decide (x5_3 < (l0.length : Int)) = true := decide_eq_true c12
    clear c12
    have H' := bA H
    clear H
    go_wp2
    go_loopg [6] k3 (fun kq v6 w' => ∃ (x6_4 : Int), v6 = .int .i64 x6_4 ∧ Aside0 (apogeeref11_Simple.l2 kq l0 (l0.length : Int) x5_3 x6_4 = some r) ∧ Aside0 (kq ≤ k3) ∧ Aside0 (Below w.heap.size w w'))
    case atStart => exact ⟨(wrap64 (x5_3 + 1)), bs, H', ⟨Nat.le_refl _⟩, ⟨bX⟩⟩
    clear H'
    try clear c1
    try clear p2
    try clear c3
    try clear c3b0
    try clear c3b1
    try clear c4
    try clear p4
    try clear q4
    try clear hx4
    try clear c5
    try clear c5b0
    try clear c6
    try clear c6b0
    try clear p6
    try clear c7
    try clear c7b0
    try clear c9
    try clear c12
    try clear c12b0
    try clear hx444_0
    try clear hx444_1
    try clear p2
    try clear p4
    try clear p444
    try clear p6
    try clear q4
    try clear q444
    obtain ⟨x6_4, rfl, HA, HK4, HB⟩ := hrel
    cases gk with
    | zero => exact absurd HA.out (by simp [apogeeref11_Simple.l2])
    | succ k4 =>
     have H := HA.out
     clear HA
     simp only [apogeeref11_Simple.l2] at H
     by_cases c13 : x6_4 < (l0.length : Int)
     rotate_left
     ·rw [if_neg c13] at H
      have c13b0 : decide (x6_4 < (l0.length : Int)) = false := decide_eq_false c13
      clear c13
      have H' := bA H
      clear H
      go_wp2
      go_roundg k4
      case measure => have := HJ1.out; have := HK2.out; have := HK3.out; have := HK4.out; omega
      case rel => exact ⟨(wrap64 (x5_3 + 1)), bs, H', ⟨by have := HJ1.out; have := HK2.out; have := HK3.out; have := HK4.out; omega⟩, ⟨bX⟩⟩
     rw [if_pos c13] at H
     have c13b0 : decide (x6_4 < (l0.length : Int)) = true := decide_eq_true c13
     clear c13
     by_cases c14 : 0 ≤ x5_3
     rotate_left
     ·rw [if_neg c14] at H
      exact absurd H (by simp)
     rw [if_pos c14] at H
     have c14b0 : decide (0 ≤ x5_3) = true := decide_eq_true c14
     clear c14
     by_cases c15 : x5_3 < (l0.length : Int)
     rotate_left
     ·rw [if_neg c15] at H
      exact absurd H (by simp)
     rw [if_pos c15] at H
     have c15b0 : decide (x5_3 < (l0.length : Int)) = true := decide_eq_true c15
     clear c15
     replace H := Option.bind_eq_some_iff.mp H
     obtain ⟨⟨t447, t448⟩, A160, H⟩ := H
     replace H : (if 0 ≤ x6_4 then (if x6_4 < (l0.length : Int) then ((apogeeref11_next.f l0 x6_4).bind fun bt450 => (apogeeref11_Simple.j4 k4 l0 (l0.length : Int) x5_3 x6_4 (((rd_T41 l0 x5_3).f0) == ((rd_T41 l0 x6_4).f0) && (((rd_T41 l0 x5_3).f1) == ((rd_T41 l0 x6_4).f1))) ((rd_T41 l0 x5_3).f0) ((rd_T41 l0 x5_3).f1) t447 t448 ((rd_T41 l0 x6_4).f0) ((rd_T41 l0 x6_4).f1) bt450.1 bt450.2)) else (none)) else (none)) = some r := H
     have A16 := bA A160
     clear A160
     by_cases c17 : 0 ≤ x6_4
     rotate_left
     ·rw [if_neg c17] at H
      exact absurd H (by simp)
     rw [if_pos c17] at H
     have c17b0 : decide (0 ≤ x6_4) = true := decide_eq_true c17
     clear c17
     by_cases c18 : x6_4 < (l0.length : Int)
     rotate_left
     ·rw [if_neg c18] at H
      exact absurd H (by simp)
     rw [if_pos c18] at H
     have c18b0 : decide (x6_4 < (l0.length : Int)) = true := decide_eq_true c18
     clear c18
     replace H := Option.bind_eq_some_iff.mp H
     obtain ⟨⟨t450, t451⟩, A190, H⟩ := H
     replace H : (apogeeref11_Simple.j4 k4 l0 (l0.length : Int) x5_3 x6_4 (((rd_T41 l0 x5_3).f0) == ((rd_T41 l0 x6_4).f0) && (((rd_T41 l0 x5_3).f1) == ((rd_T41 l0 x6_4).f1))) ((rd_T41 l0 x5_3).f0) ((rd_T41 l0 x5_3).f1) t447 t448 ((rd_T41 l0 x6_4).f0) ((rd_T41 l0 x6_4).f1) t450 t451) = some r := H
     have A19 := bA A190
     clear A190
     have HC20 := bA H
     clear H
     try go_wp2
     replace HB := bA (below_drew1 HB.out)
     have p446 : 0 ≤ (x5_3 : Int) := bo
     have q446 : x5_3 < (l0.length : Int) := bo
     obtain ⟨ad446, e446, hx446_0, hx446_1⟩ := at_T41 HR0.out x5_3 p446 q446
     have hw446_1 := hx446_1
     have hw446_0 := hx446_0
     cases e446
     replace hx446_0 := bK hx446_0
     replace hx446_1 := bK hx446_1
     replace p446 := eq_true p446
     replace q446 := eq_true q446
     have p449 : 0 ≤ (x6_4 : Int) := bo
     have q449 : x6_4 < (l0.length : Int) := bo
     obtain ⟨ad449, e449, hx449_0, hx449_1⟩ := at_T41 HR0.out x6_4 p449 q449
     have hw449_1 := hx449_1
     have hw449_0 := hx449_0
     obtain rfl : ad446 = ad449 := (by injection e449)
     replace hx449_0 := bK hx449_0
     replace hx449_1 := bK hx449_1
     replace p449 := eq_true p449
     replace q449 := eq_true q449
     refine start_ (n := 22) (S := fun w' => True) (ds := []) #[false,false,false,false,false,false,false,false,false,false,false,false,false,false,false,false,false,false,false,false,false,false] (by kernel_rfl) rfl rfl trivial (fun hHeld => ?_); refine with_tabW apogeeref11_Simple.tab15 apogeeref11_Simple.bits15 (fun HT_ HW_ => ?_)
     generalize wr.drew = w21 at HB hx446_0 hx446_1 hx449_0 hx449_1 hHeld ⊢
     refine bU (i := 0) (N := some 42) ?_
     refine bU (i := 1) (N := some 43) ?_
     refine bU (i := 4) (N := some 46) ?_
     refine bU (i := 5) (N := some 47) ?_
     refine bU (i := 7) (N := some 49) ?_
     refine bU (i := 8) (N := some 50) ?_
     refine bU (i := 11) (N := some 53) ?_
     refine bU (i := 12) (N := some 54) ?_
     refine inv_at [2, 3, 6, 9, 10, 13, 14, 15, 16, 17, 18, 19, 20, 21] (fun a0_ b a w' => ∃ (gb452 : Nat) (gb453 : Nat) (gb454 : Nat) (gb455 : Nat) (m14_ : Value) (m15_ : Value) (m16_ : Value) (m17_ : Value), a = putSel a0_ b [(2, 44, .pointer (some (ad446.add ((x5_3).toNat * 2)))), (3, 45, .agg #[.int .i64 ((rd_T41 l0 x5_3).f0), .int .i64 ((rd_T41 l0 x5_3).f1)]), (6, 48, .agg #[.int .i64 t447, .int .i64 t448]), (9, 51, .pointer (some (ad446.add ((x6_4).toNat * 2)))), (10, 52, .agg #[.int .i64 ((rd_T41 l0 x6_4).f0), .int .i64 ((rd_T41 l0 x6_4).f1)]), (13, 55, .agg #[.int .i64 t450, .int .i64 t451]), (14, 7, m14_), (15, 8, m15_), (16, 9, m16_), (17, 10, m17_)] ∧ (Below w.heap.size w w') ∧ (b 14 = true → b 15 = true → gb453 ≠ gb452) ∧ (b 14 = true → b 15 = true → gb452 ≠ gb453) ∧ (b 14 = true → b 16 = true → gb454 ≠ gb452) ∧ (b 14 = true → b 16 = true → gb452 ≠ gb454) ∧ (b 14 = true → b 17 = true → gb455 ≠ gb452) ∧ (b 14 = true → b 17 = true → gb452 ≠ gb455) ∧ (b 15 = true → b 16 = true → gb454 ≠ gb453) ∧ (b 15 = true → b 16 = true → gb453 ≠ gb454) ∧ (b 15 = true → b 17 = true → gb455 ≠ gb453) ∧ (b 15 = true → b 17 = true → gb453 ≠ gb455) ∧ (b 16 = true → b 17 = true → gb455 ≠ gb454) ∧ (b 16 = true → b 17 = true → gb454 ≠ gb455) ∧ (b 14 = true → b 18 = false → w'.heap[gb452]? = some (.cells #[.int .i64 0, .int .i64 0] 41 (0, 0))) ∧ (b 14 = true → w.heap.size ≤ gb452) ∧ (b 14 = true → w.heap.size ≤ gb452) ∧ (b 15 = true → b 19 = false → w'.heap[gb453]? = some (.cells #[.int .i64 0, .int .i64 0] 41 (0, 0))) ∧ (b 15 = true → w.heap.size ≤ gb453) ∧ (b 15 = true → w.heap.size ≤ gb453) ∧ (b 16 = true → b 20 = false → w'.heap[gb454]? = some (.cells #[.int .i64 0, .int .i64 0] 41 (0, 0))) ∧ (b 16 = true → w.heap.size ≤ gb454) ∧ (b 16 = true → w.heap.size ≤ gb454) ∧ (b 17 = true → b 21 = false → w'.heap[gb455]? = some (.cells #[.int .i64 0, .int .i64 0] 41 (0, 0))) ∧ (b 17 = true → w.heap.size ≤ gb455) ∧ (b 17 = true → w.heap.size ≤ gb455) ∧ (b 18 = true → w'.heap[gb452]? = some (.cells #[.int .i64 ((rd_T41 l0 x5_3).f0), .int .i64 ((rd_T41 l0 x5_3).f1)] 41 (0, 0))) ∧ (b 19 = true → w'.heap[gb453]? = some (.cells #[.int .i64 t447, .int .i64 t448] 41 (0, 0))) ∧ (b 20 = true → w'.heap[gb454]? = some (.cells #[.int .i64 ((rd_T41 l0 x6_4).f0), .int .i64 ((rd_T41 l0 x6_4).f1)] 41 (0, 0))) ∧ (b 21 = true → w'.heap[gb455]? = some (.cells #[.int .i64 t450, .int .i64 t451] 41 (0, 0))) ∧ (b 14 = true → (m14_ : Value) = .pointer (some ⟨gb452, 0, none⟩)) ∧ (b 15 = true → (m15_ : Value) = .pointer (some ⟨gb453, 0, none⟩)) ∧ (b 16 = true → (m16_ : Value) = .pointer (some ⟨gb454, 0, none⟩)) ∧ (b 17 = true → (m17_ : Value) = .pointer (some ⟨gb455, 0, none⟩))) HT_.out HW_.out (by kernel_rfl) (by kernel_rfl) ?_ ?_ ?_
     ·exact ⟨0, 0, 0, 0, .bool false, .bool false, .bool false, .bool false, by simp only [putSel, Bool.false_eq_true, if_false], HB.out, fun h_ => absurd h_ (by decide), fun h_ => absurd h_ (by decide), fun h_ => absurd h_ (by decide), fun h_ => absurd h_ (by decide), fun h_ => absurd h_ (by decide), fun h_ => absurd h_ (by decide), fun h_ => absurd h_ (by decide), fun h_ => absurd h_ (by decide), fun h_ => absurd h_ (by decide), fun h_ => absurd h_ (by decide), fun h_ => absurd h_ (by decide), fun h_ => absurd h_ (by decide), fun h_ => absurd h_ (by decide), fun h_ => absurd h_ (by decide), fun h_ => absurd h_ (by decide), fun h_ => absurd h_ (by decide), fun h_ => absurd h_ (by decide), fun h_ => absurd h_ (by decide), fun h_ => absurd h_ (by decide), fun h_ => absurd h_ (by decide), fun h_ => absurd h_ (by decide), fun h_ => absurd h_ (by decide), fun h_ => absurd h_ (by decide), fun h_ => absurd h_ (by decide), fun h_ => absurd h_ (by decide), fun h_ => absurd h_ (by decide), fun h_ => absurd h_ (by decide), fun h_ => absurd h_ (by decide), fun h_ => absurd h_ (by decide), fun h_ => absurd h_ (by decide), fun h_ => absurd h_ (by decide), fun h_ => absurd h_ (by decide)⟩
     ·skip
      clear HB
      refine steps_cons ?_ ?_
      ·rintro b a w' ⟨gb452, gb453, gb454, gb455, m14_, m15_, m16_, m17_, ha, Q_HB, Q_NB453_452, Q_NB452_453, Q_NB454_452, Q_NB452_454, Q_NB455_452, Q_NB452_455, Q_NB454_453, Q_NB453_454, Q_NB455_453, Q_NB453_455, Q_NB455_454, Q_NB454_455, Q_BK452, Q_GW452, Q_GE452, Q_BK453, Q_GW453, Q_GE453, Q_BK454, Q_GW454, Q_GE454, Q_BK455, Q_GW455, Q_GE455, Q_BK452_e18, Q_BK453_e19, Q_BK454_e20, Q_BK455_e21, Q_X14_, Q_X15_, Q_X16_, Q_X17_⟩ hb_ hon hoff
       refine ⟨_, rfl, fun K hK => ?_⟩
       have e42 : a.tmps[42]? = some (.slice (some ad446) l0.length c0) := by rw [ha]; exact (putSel_off rfl).trans rfl
       have e43 : a.tmps[43]? = some (.int .i64 x5_3) := by rw [ha]; exact (putSel_off rfl).trans rfl
       replace ha := bA ha
       have HB := bA Q_HB
       have hs0_ : w'.cell? (ad446.add ((x5_3).toNat * 2)) = some (.int .i64 ((rd_T41 l0 x5_3).f0)) := (bK hw446_0)
       have hs1_ : w'.cell? ⟨(ad446.add ((x5_3).toNat * 2)).block, (ad446.add ((x5_3).toNat * 2)).off + 1, none⟩ = some (.int .i64 ((rd_T41 l0 x5_3).f1)) := (bK hw446_1)
       refine value_ (w1 := w') (v := .pointer (some (ad446.add ((x5_3).toNat * 2)))) (by rfl) rfl ?_ ?_
       ·go_simp
        (try simp only [i64_w])
        try rfl
       refine hK.out _ _ ⟨gb452, gb453, gb454, gb455, m14_, m15_, m16_, m17_, (by rw [ha.out]; exact putSel_upk 0 hb_ rfl rfl rfl), Q_HB, Q_NB453_452, Q_NB452_453, Q_NB454_452, Q_NB452_454, Q_NB455_452, Q_NB452_455, Q_NB454_453, Q_NB453_454, Q_NB455_453, Q_NB453_455, Q_NB455_454, Q_NB454_455, Q_BK452, Q_GW452, Q_GE452, Q_BK453, Q_GW453, Q_GE453, Q_BK454, Q_GW454, Q_GE454, Q_BK455, Q_GW455, Q_GE455, fun h0_ => absurd ((hoff 18 (by kernel_rfl)).symm.trans h0_) (by decide), fun h0_ => absurd ((hoff 19 (by kernel_rfl)).symm.trans h0_) (by decide), fun h0_ => absurd ((hoff 20 (by kernel_rfl)).symm.trans h0_) (by decide), fun h0_ => absurd ((hoff 21 (by kernel_rfl)).symm.trans h0_) (by decide), Q_X14_, Q_X15_, Q_X16_, Q_X17_⟩
      refine steps_cons ?_ ?_
      ·rintro b a w' ⟨gb452, gb453, gb454, gb455, m14_, m15_, m16_, m17_, ha, Q_HB, Q_NB453_452, Q_NB452_453, Q_NB454_452, Q_NB452_454, Q_NB455_452, Q_NB452_455, Q_NB454_453, Q_NB453_454, Q_NB455_453, Q_NB453_455, Q_NB455_454, Q_NB454_455, Q_BK452, Q_GW452, Q_GE452, Q_BK453, Q_GW453, Q_GE453, Q_BK454, Q_GW454, Q_GE454, Q_BK455, Q_GW455, Q_GE455, Q_BK452_e18, Q_BK453_e19, Q_BK454_e20, Q_BK455_e21, Q_X14_, Q_X15_, Q_X16_, Q_X17_⟩ hb_ hon hoff
       refine ⟨_, rfl, fun K hK => ?_⟩
       have e44 : a.tmps[44]? = some (.pointer (some (ad446.add ((x5_3).toNat * 2)))) := by rw [ha]; exact putSel_on (e := (2, 44, .pointer (some (ad446.add ((x5_3).toNat * 2))))) 0 rfl rfl (hon 2 (by kernel_rfl)) rfl
       replace ha := bA ha
       have HB := bA Q_HB
       have hs0_ : w'.cell? (ad446.add ((x5_3).toNat * 2)) = some (.int .i64 ((rd_T41 l0 x5_3).f0)) := (bK hw446_0)
       have hs1_ : w'.cell? ⟨(ad446.add ((x5_3).toNat * 2)).block, (ad446.add ((x5_3).toNat * 2)).off + 1, none⟩ = some (.int .i64 ((rd_T41 l0 x5_3).f1)) := (bK hw446_1)
       refine value_ (w1 := w') (v := .agg #[.int .i64 ((rd_T41 l0 x5_3).f0), .int .i64 ((rd_T41 l0 x5_3).f1)]) (by rfl) rfl ?_ ?_
       ·go_simp
        (try simp only [i64_w])
        try rfl
       refine hK.out _ _ ⟨gb452, gb453, gb454, gb455, m14_, m15_, m16_, m17_, (by rw [ha.out]; exact putSel_upk 1 hb_ rfl rfl rfl), Q_HB, Q_NB453_452, Q_NB452_453, Q_NB454_452, Q_NB452_454, Q_NB455_452, Q_NB452_455, Q_NB454_453, Q_NB453_454, Q_NB455_453, Q_NB453_455, Q_NB455_454, Q_NB454_455, Q_BK452, Q_GW452, Q_GE452, Q_BK453, Q_GW453, Q_GE453, Q_BK454, Q_GW454, Q_GE454, Q_BK455, Q_GW455, Q_GE455, fun h0_ => absurd ((hoff 18 (by kernel_rfl)).symm.trans h0_) (by decide), fun h0_ => absurd ((hoff 19 (by kernel_rfl)).symm.trans h0_) (by decide), fun h0_ => absurd ((hoff 20 (by kernel_rfl)).symm.trans h0_) (by decide), fun h0_ => absurd ((hoff 21 (by kernel_rfl)).symm.trans h0_) (by decide), Q_X14_, Q_X15_, Q_X16_, Q_X17_⟩
      refine steps_cons ?_ ?_
      ·rintro b a w' ⟨gb452, gb453, gb454, gb455, m14_, m15_, m16_, m17_, ha, Q_HB, Q_NB453_452, Q_NB452_453, Q_NB454_452, Q_NB452_454, Q_NB455_452, Q_NB452_455, Q_NB454_453, Q_NB453_454, Q_NB455_453, Q_NB453_455, Q_NB455_454, Q_NB454_455, Q_BK452, Q_GW452, Q_GE452, Q_BK453, Q_GW453, Q_GE453, Q_BK454, Q_GW454, Q_GE454, Q_BK455, Q_GW455, Q_GE455, Q_BK452_e18, Q_BK453_e19, Q_BK454_e20, Q_BK455_e21, Q_X14_, Q_X15_, Q_X16_, Q_X17_⟩ hb_ hon hoff
       refine ⟨_, rfl, fun K hK => ?_⟩
       have e46 : a.tmps[46]? = some (.slice (some ad446) l0.length c0) := by rw [ha]; exact (putSel_off rfl).trans rfl
       have e47 : a.tmps[47]? = some (.int .i64 x5_3) := by rw [ha]; exact (putSel_off rfl).trans rfl
       replace ha := bA ha
       have HB := bA Q_HB
       refine goes_ Try.func69 (by kernel_rfl) rfl #[.slice (some ad446) l0.length c0, .int .i64 x5_3] (by rfl) rfl rfl (by first | (simp only [List.map_toArray, List.map_cons, List.map_nil, Act.eval, Array.getD_eq_getD_getElem?, Option.getD_some, e46, e47]; done) | (simp only [List.map_toArray, List.map_cons, List.map_nil, Act.eval, Array.getD_eq_getD_getElem?, Option.getD_some, e46, e47]; rfl)) ?_
       with_reducible refine (apogeeref11_next.calls _ _ l0 x5_3 t447 t448 _ ?side1 ?side2 A16.out).mono ?_
       (case side1 => exact bQ HR0)
       (case side2 => exact HC0.out)
       rintro e w22 ⟨rfl, hb⟩
       refine ⟨_, rfl, ?_⟩
       have n0_ := bA (bS hb)
       have z_BK452 := fun (h0_ : b 14 = true) (h1_ : b 18 = false) => (show w22.heap[gb452]? = some (.cells #[.int .i64 0, .int .i64 0] 41 (0, 0)) from by first | exact (blk_below (g := gb452) (o := .cells #[.int .i64 0, .int .i64 0] 41 (0, 0)) (by (with_reducible repeat (first | refine blk_drewN ?_ _ | refine blk_drew ?_ | refine blk_alloc ?_ _)); exact (Q_BK452 h0_ h1_)) hb))
       have z_BK453 := fun (h0_ : b 15 = true) (h1_ : b 19 = false) => (show w22.heap[gb453]? = some (.cells #[.int .i64 0, .int .i64 0] 41 (0, 0)) from by first | exact (blk_below (g := gb453) (o := .cells #[.int .i64 0, .int .i64 0] 41 (0, 0)) (by (with_reducible repeat (first | refine blk_drewN ?_ _ | refine blk_drew ?_ | refine blk_alloc ?_ _)); exact (Q_BK453 h0_ h1_)) hb))
       have z_BK454 := fun (h0_ : b 16 = true) (h1_ : b 20 = false) => (show w22.heap[gb454]? = some (.cells #[.int .i64 0, .int .i64 0] 41 (0, 0)) from by first | exact (blk_below (g := gb454) (o := .cells #[.int .i64 0, .int .i64 0] 41 (0, 0)) (by (with_reducible repeat (first | refine blk_drewN ?_ _ | refine blk_drew ?_ | refine blk_alloc ?_ _)); exact (Q_BK454 h0_ h1_)) hb))
       have z_BK455 := fun (h0_ : b 17 = true) (h1_ : b 21 = false) => (show w22.heap[gb455]? = some (.cells #[.int .i64 0, .int .i64 0] 41 (0, 0)) from by first | exact (blk_below (g := gb455) (o := .cells #[.int .i64 0, .int .i64 0] 41 (0, 0)) (by (with_reducible repeat (first | refine blk_drewN ?_ _ | refine blk_drew ?_ | refine blk_alloc ?_ _)); exact (Q_BK455 h0_ h1_)) hb))
       clear HB
       have HB := n0_
       clear n0_
       (try clear hb)
       refine hK.out _ _ ⟨gb452, gb453, gb454, gb455, m14_, m15_, m16_, m17_, (by rw [ha.out]; exact putSel_upk 2 hb_ rfl rfl rfl), bX, Q_NB453_452, Q_NB452_453, Q_NB454_452, Q_NB452_454, Q_NB455_452, Q_NB452_455, Q_NB454_453, Q_NB453_454, Q_NB455_453, Q_NB453_455, Q_NB455_454, Q_NB454_455, z_BK452, Q_GW452, Q_GE452, z_BK453, Q_GW453, Q_GE453, z_BK454, Q_GW454, Q_GE454, z_BK455, Q_GW455, Q_GE455, fun h0_ => absurd ((hoff 18 (by kernel_rfl)).symm.trans h0_) (by decide), fun h0_ => absurd ((hoff 19 (by kernel_rfl)).symm.trans h0_) (by decide), fun h0_ => absurd ((hoff 20 (by kernel_rfl)).symm.trans h0_) (by decide), fun h0_ => absurd ((hoff 21 (by kernel_rfl)).symm.trans h0_) (by decide), Q_X14_, Q_X15_, Q_X16_, Q_X17_⟩
      refine steps_cons ?_ ?_
      ·rintro b a w' ⟨gb452, gb453, gb454, gb455, m14_, m15_, m16_, m17_, ha, Q_HB, Q_NB453_452, Q_NB452_453, Q_NB454_452, Q_NB452_454, Q_NB455_452, Q_NB452_455, Q_NB454_453, Q_NB453_454, Q_NB455_453, Q_NB453_455, Q_NB455_454, Q_NB454_455, Q_BK452, Q_GW452, Q_GE452, Q_BK453, Q_GW453, Q_GE453, Q_BK454, Q_GW454, Q_GE454, Q_BK455, Q_GW455, Q_GE455, Q_BK452_e18, Q_BK453_e19, Q_BK454_e20, Q_BK455_e21, Q_X14_, Q_X15_, Q_X16_, Q_X17_⟩ hb_ hon hoff
       refine ⟨_, rfl, fun K hK => ?_⟩
       have e49 : a.tmps[49]? = some (.slice (some ad446) l0.length c0) := by rw [ha]; exact (putSel_off rfl).trans rfl
       have e50 : a.tmps[50]? = some (.int .i64 x6_4) := by rw [ha]; exact (putSel_off rfl).trans rfl
       replace ha := bA ha
       have HB := bA Q_HB
       have hs2_ : w'.cell? (ad446.add ((x6_4).toNat * 2)) = some (.int .i64 ((rd_T41 l0 x6_4).f0)) := (bK hw449_0)
       have hs3_ : w'.cell? ⟨(ad446.add ((x6_4).toNat * 2)).block, (ad446.add ((x6_4).toNat * 2)).off + 1, none⟩ = some (.int .i64 ((rd_T41 l0 x6_4).f1)) := (bK hw449_1)
       refine value_ (w1 := w') (v := .pointer (some (ad446.add ((x6_4).toNat * 2)))) (by rfl) rfl ?_ ?_
       ·go_simp
        (try simp only [i64_w])
        try rfl
       refine hK.out _ _ ⟨gb452, gb453, gb454, gb455, m14_, m15_, m16_, m17_, (by rw [ha.out]; exact putSel_upk 3 hb_ rfl rfl rfl), Q_HB, Q_NB453_452, Q_NB452_453, Q_NB454_452, Q_NB452_454, Q_NB455_452, Q_NB452_455, Q_NB454_453, Q_NB453_454, Q_NB455_453, Q_NB453_455, Q_NB455_454, Q_NB454_455, Q_BK452, Q_GW452, Q_GE452, Q_BK453, Q_GW453, Q_GE453, Q_BK454, Q_GW454, Q_GE454, Q_BK455, Q_GW455, Q_GE455, Q_BK452_e18, Q_BK453_e19, fun h0_ => absurd ((hoff 20 (by kernel_rfl)).symm.trans h0_) (by decide), fun h0_ => absurd ((hoff 21 (by kernel_rfl)).symm.trans h0_) (by decide), Q_X14_, Q_X15_, Q_X16_, Q_X17_⟩
      refine steps_cons ?_ ?_
      ·rintro b a w' ⟨gb452, gb453, gb454, gb455, m14_, m15_, m16_, m17_, ha, Q_HB, Q_NB453_452, Q_NB452_453, Q_NB454_452, Q_NB452_454, Q_NB455_452, Q_NB452_455, Q_NB454_453, Q_NB453_454, Q_NB455_453, Q_NB453_455, Q_NB455_454, Q_NB454_455, Q_BK452, Q_GW452, Q_GE452, Q_BK453, Q_GW453, Q_GE453, Q_BK454, Q_GW454, Q_GE454, Q_BK455, Q_GW455, Q_GE455, Q_BK452_e18, Q_BK453_e19, Q_BK454_e20, Q_BK455_e21, Q_X14_, Q_X15_, Q_X16_, Q_X17_⟩ hb_ hon hoff
       refine ⟨_, rfl, fun K hK => ?_⟩
       have e51 : a.tmps[51]? = some (.pointer (some (ad446.add ((x6_4).toNat * 2)))) := by rw [ha]; exact putSel_on (e := (9, 51, .pointer (some (ad446.add ((x6_4).toNat * 2))))) 3 rfl rfl (hon 9 (by kernel_rfl)) rfl
       replace ha := bA ha
       have HB := bA Q_HB
       have hs2_ : w'.cell? (ad446.add ((x6_4).toNat * 2)) = some (.int .i64 ((rd_T41 l0 x6_4).f0)) := (bK hw449_0)
       have hs3_ : w'.cell? ⟨(ad446.add ((x6_4).toNat * 2)).block, (ad446.add ((x6_4).toNat * 2)).off + 1, none⟩ = some (.int .i64 ((rd_T41 l0 x6_4).f1)) := (bK hw449_1)
       refine value_ (w1 := w') (v := .agg #[.int .i64 ((rd_T41 l0 x6_4).f0), .int .i64 ((rd_T41 l0 x6_4).f1)]) (by rfl) rfl ?_ ?_
       ·go_simp
        (try simp only [i64_w])
        try rfl
       refine hK.out _ _ ⟨gb452, gb453, gb454, gb455, m14_, m15_, m16_, m17_, (by rw [ha.out]; exact putSel_upk 4 hb_ rfl rfl rfl), Q_HB, Q_NB453_452, Q_NB452_453, Q_NB454_452, Q_NB452_454, Q_NB455_452, Q_NB452_455, Q_NB454_453, Q_NB453_454, Q_NB455_453, Q_NB453_455, Q_NB455_454, Q_NB454_455, Q_BK452, Q_GW452, Q_GE452, Q_BK453, Q_GW453, Q_GE453, Q_BK454, Q_GW454, Q_GE454, Q_BK455, Q_GW455, Q_GE455, Q_BK452_e18, Q_BK453_e19, fun h0_ => absurd ((hoff 20 (by kernel_rfl)).symm.trans h0_) (by decide), fun h0_ => absurd ((hoff 21 (by kernel_rfl)).symm.trans h0_) (by decide), Q_X14_, Q_X15_, Q_X16_, Q_X17_⟩
      refine steps_cons ?_ ?_
      ·rintro b a w' ⟨gb452, gb453, gb454, gb455, m14_, m15_, m16_, m17_, ha, Q_HB, Q_NB453_452, Q_NB452_453, Q_NB454_452, Q_NB452_454, Q_NB455_452, Q_NB452_455, Q_NB454_453, Q_NB453_454, Q_NB455_453, Q_NB453_455, Q_NB455_454, Q_NB454_455, Q_BK452, Q_GW452, Q_GE452, Q_BK453, Q_GW453, Q_GE453, Q_BK454, Q_GW454, Q_GE454, Q_BK455, Q_GW455, Q_GE455, Q_BK452_e18, Q_BK453_e19, Q_BK454_e20, Q_BK455_e21, Q_X14_, Q_X15_, Q_X16_, Q_X17_⟩ hb_ hon hoff
       refine ⟨_, rfl, fun K hK => ?_⟩
       have e53 : a.tmps[53]? = some (.slice (some ad446) l0.length c0) := by rw [ha]; exact (putSel_off rfl).trans rfl
       have e54 : a.tmps[54]? = some (.int .i64 x6_4) := by rw [ha]; exact (putSel_off rfl).trans rfl
       replace ha := bA ha
       have HB := bA Q_HB
       refine goes_ Try.func69 (by kernel_rfl) rfl #[.slice (some ad446) l0.length c0, .int .i64 x6_4] (by rfl) rfl rfl (by first | (simp only [List.map_toArray, List.map_cons, List.map_nil, Act.eval, Array.getD_eq_getD_getElem?, Option.getD_some, e53, e54]; done) | (simp only [List.map_toArray, List.map_cons, List.map_nil, Act.eval, Array.getD_eq_getD_getElem?, Option.getD_some, e53, e54]; rfl)) ?_
       with_reducible refine (apogeeref11_next.calls _ _ l0 x6_4 t450 t451 _ ?side1 ?side2 A19.out).mono ?_
       (case side1 => exact bQ HR0)
       (case side2 => exact HC0.out)
       rintro e w24 ⟨rfl, hb⟩
       refine ⟨_, rfl, ?_⟩
       have n0_ := bA (bS hb)
       have z_BK452 := fun (h0_ : b 14 = true) (h1_ : b 18 = false) => (show w24.heap[gb452]? = some (.cells #[.int .i64 0, .int .i64 0] 41 (0, 0)) from by first | exact (blk_below (g := gb452) (o := .cells #[.int .i64 0, .int .i64 0] 41 (0, 0)) (by (with_reducible repeat (first | refine blk_drewN ?_ _ | refine blk_drew ?_ | refine blk_alloc ?_ _)); exact (Q_BK452 h0_ h1_)) hb))
       have z_BK453 := fun (h0_ : b 15 = true) (h1_ : b 19 = false) => (show w24.heap[gb453]? = some (.cells #[.int .i64 0, .int .i64 0] 41 (0, 0)) from by first | exact (blk_below (g := gb453) (o := .cells #[.int .i64 0, .int .i64 0] 41 (0, 0)) (by (with_reducible repeat (first | refine blk_drewN ?_ _ | refine blk_drew ?_ | refine blk_alloc ?_ _)); exact (Q_BK453 h0_ h1_)) hb))
       have z_BK454 := fun (h0_ : b 16 = true) (h1_ : b 20 = false) => (show w24.heap[gb454]? = some (.cells #[.int .i64 0, .int .i64 0] 41 (0, 0)) from by first | exact (blk_below (g := gb454) (o := .cells #[.int .i64 0, .int .i64 0] 41 (0, 0)) (by (with_reducible repeat (first | refine blk_drewN ?_ _ | refine blk_drew ?_ | refine blk_alloc ?_ _)); exact (Q_BK454 h0_ h1_)) hb))
       have z_BK455 := fun (h0_ : b 17 = true) (h1_ : b 21 = false) => (show w24.heap[gb455]? = some (.cells #[.int .i64 0, .int .i64 0] 41 (0, 0)) from by first | exact (blk_below (g := gb455) (o := .cells #[.int .i64 0, .int .i64 0] 41 (0, 0)) (by (with_reducible repeat (first | refine blk_drewN ?_ _ | refine blk_drew ?_ | refine blk_alloc ?_ _)); exact (Q_BK455 h0_ h1_)) hb))
       clear HB
       have HB := n0_
       clear n0_
       (try clear hb)
       refine hK.out _ _ ⟨gb452, gb453, gb454, gb455, m14_, m15_, m16_, m17_, (by rw [ha.out]; exact putSel_upk 5 hb_ rfl rfl rfl), bX, Q_NB453_452, Q_NB452_453, Q_NB454_452, Q_NB452_454, Q_NB455_452, Q_NB452_455, Q_NB454_453, Q_NB453_454, Q_NB455_453, Q_NB453_455, Q_NB455_454, Q_NB454_455, z_BK452, Q_GW452, Q_GE452, z_BK453, Q_GW453, Q_GE453, z_BK454, Q_GW454, Q_GE454, z_BK455, Q_GW455, Q_GE455, fun h0_ => absurd ((hoff 18 (by kernel_rfl)).symm.trans h0_) (by decide), fun h0_ => absurd ((hoff 19 (by kernel_rfl)).symm.trans h0_) (by decide), fun h0_ => absurd ((hoff 20 (by kernel_rfl)).symm.trans h0_) (by decide), fun h0_ => absurd ((hoff 21 (by kernel_rfl)).symm.trans h0_) (by decide), Q_X14_, Q_X15_, Q_X16_, Q_X17_⟩
      refine steps_cons ?_ ?_
      ·rintro b a w' ⟨gb452, gb453, gb454, gb455, m14_, m15_, m16_, m17_, ha, Q_HB, Q_NB453_452, Q_NB452_453, Q_NB454_452, Q_NB452_454, Q_NB455_452, Q_NB452_455, Q_NB454_453, Q_NB453_454, Q_NB455_453, Q_NB453_455, Q_NB455_454, Q_NB454_455, Q_BK452, Q_GW452, Q_GE452, Q_BK453, Q_GW453, Q_GE453, Q_BK454, Q_GW454, Q_GE454, Q_BK455, Q_GW455, Q_GE455, Q_BK452_e18, Q_BK453_e19, Q_BK454_e20, Q_BK455_e21, Q_X14_, Q_X15_, Q_X16_, Q_X17_⟩ hb_ hon hoff
       refine ⟨_, rfl, fun K hK => ?_⟩
       replace ha := bA ha
       have HB := bA Q_HB
       refine bT (N := 7) (cs := #[.int .i64 0, .int .i64 0]) (t := 41) ?_
       intro gb452 hg w22 hbox hb
       have n0_ := bA (bS hb)
       have n1_ := bA (hbox)
       have n2_ := bA (bZ hg)
       have n3_ := bA (bZ hg)
       have z_NB453_452 := fun (h0_ : up b 14 14 = true) (h1_ : up b 14 15 = true) => (show gb453 ≠ gb452 from (by rw [hg]; exact Nat.ne_of_lt ((Bool.eq_false_or_eq_true _).elim (fun q_ => blk_lt (Q_BK453_e19 q_)) (fun q_ => blk_lt (Q_BK453 h1_ q_)))))
       have z_NB452_453 := fun (h0_ : up b 14 14 = true) (h1_ : up b 14 15 = true) => (show gb452 ≠ gb453 from (by rw [hg]; exact Nat.ne_of_gt ((Bool.eq_false_or_eq_true _).elim (fun q_ => blk_lt (Q_BK453_e19 q_)) (fun q_ => blk_lt (Q_BK453 h1_ q_)))))
       have z_NB454_452 := fun (h0_ : up b 14 14 = true) (h1_ : up b 14 16 = true) => (show gb454 ≠ gb452 from (by rw [hg]; exact Nat.ne_of_lt ((Bool.eq_false_or_eq_true _).elim (fun q_ => blk_lt (Q_BK454_e20 q_)) (fun q_ => blk_lt (Q_BK454 h1_ q_)))))
       have z_NB452_454 := fun (h0_ : up b 14 14 = true) (h1_ : up b 14 16 = true) => (show gb452 ≠ gb454 from (by rw [hg]; exact Nat.ne_of_gt ((Bool.eq_false_or_eq_true _).elim (fun q_ => blk_lt (Q_BK454_e20 q_)) (fun q_ => blk_lt (Q_BK454 h1_ q_)))))
       have z_NB455_452 := fun (h0_ : up b 14 14 = true) (h1_ : up b 14 17 = true) => (show gb455 ≠ gb452 from (by rw [hg]; exact Nat.ne_of_lt ((Bool.eq_false_or_eq_true _).elim (fun q_ => blk_lt (Q_BK455_e21 q_)) (fun q_ => blk_lt (Q_BK455 h1_ q_)))))
       have z_NB452_455 := fun (h0_ : up b 14 14 = true) (h1_ : up b 14 17 = true) => (show gb452 ≠ gb455 from (by rw [hg]; exact Nat.ne_of_gt ((Bool.eq_false_or_eq_true _).elim (fun q_ => blk_lt (Q_BK455_e21 q_)) (fun q_ => blk_lt (Q_BK455 h1_ q_)))))
       have z_BK453 := fun (h0_ : b 15 = true) (h1_ : b 19 = false) => (show w22.heap[gb453]? = some (.cells #[.int .i64 0, .int .i64 0] 41 (0, 0)) from by first | exact (blk_below (g := gb453) (o := .cells #[.int .i64 0, .int .i64 0] 41 (0, 0)) (by (with_reducible repeat (first | refine blk_drewN ?_ _ | refine blk_drew ?_ | refine blk_alloc ?_ _)); exact (Q_BK453 h0_ h1_)) hb))
       have z_BK454 := fun (h0_ : b 16 = true) (h1_ : b 20 = false) => (show w22.heap[gb454]? = some (.cells #[.int .i64 0, .int .i64 0] 41 (0, 0)) from by first | exact (blk_below (g := gb454) (o := .cells #[.int .i64 0, .int .i64 0] 41 (0, 0)) (by (with_reducible repeat (first | refine blk_drewN ?_ _ | refine blk_drew ?_ | refine blk_alloc ?_ _)); exact (Q_BK454 h0_ h1_)) hb))
       have z_BK455 := fun (h0_ : b 17 = true) (h1_ : b 21 = false) => (show w22.heap[gb455]? = some (.cells #[.int .i64 0, .int .i64 0] 41 (0, 0)) from by first | exact (blk_below (g := gb455) (o := .cells #[.int .i64 0, .int .i64 0] 41 (0, 0)) (by (with_reducible repeat (first | refine blk_drewN ?_ _ | refine blk_drew ?_ | refine blk_alloc ?_ _)); exact (Q_BK455 h0_ h1_)) hb))
       clear HB
       have HB := n0_
       have BK452 := n1_
       have GW452 := n2_
       have GE452 := n3_
       clear n0_ n1_ n2_ n3_
       clear hb hbox hg
       refine hK.out _ _ ⟨gb452, gb453, gb454, gb455, (.pointer (some ⟨gb452, 0, none⟩)), m15_, m16_, m17_, (by rw [ha.out]; exact putSel_upk 6 hb_ rfl rfl rfl), bX, z_NB453_452, z_NB452_453, z_NB454_452, z_NB452_454, z_NB455_452, z_NB452_455, Q_NB454_453, Q_NB453_454, Q_NB455_453, Q_NB453_455, Q_NB455_454, Q_NB454_455, fun _ _ => (bP BK452), fun _ => GW452.out, fun _ => GE452.out, z_BK453, Q_GW453, Q_GE453, z_BK454, Q_GW454, Q_GE454, z_BK455, Q_GW455, Q_GE455, fun h0_ => absurd ((hoff 18 (by kernel_rfl)).symm.trans h0_) (by decide), fun h0_ => absurd ((hoff 19 (by kernel_rfl)).symm.trans h0_) (by decide), fun h0_ => absurd ((hoff 20 (by kernel_rfl)).symm.trans h0_) (by decide), fun h0_ => absurd ((hoff 21 (by kernel_rfl)).symm.trans h0_) (by decide), fun _ => rfl, Q_X15_, Q_X16_, Q_X17_⟩
      refine steps_cons ?_ ?_
      ·rintro b a w' ⟨gb452, gb453, gb454, gb455, m14_, m15_, m16_, m17_, ha, Q_HB, Q_NB453_452, Q_NB452_453, Q_NB454_452, Q_NB452_454, Q_NB455_452, Q_NB452_455, Q_NB454_453, Q_NB453_454, Q_NB455_453, Q_NB453_455, Q_NB455_454, Q_NB454_455, Q_BK452, Q_GW452, Q_GE452, Q_BK453, Q_GW453, Q_GE453, Q_BK454, Q_GW454, Q_GE454, Q_BK455, Q_GW455, Q_GE455, Q_BK452_e18, Q_BK453_e19, Q_BK454_e20, Q_BK455_e21, Q_X14_, Q_X15_, Q_X16_, Q_X17_⟩ hb_ hon hoff
       refine ⟨_, rfl, fun K hK => ?_⟩
       replace ha := bA ha
       have HB := bA Q_HB
       refine bT (N := 8) (cs := #[.int .i64 0, .int .i64 0]) (t := 41) ?_
       intro gb453 hg w22 hbox hb
       have n0_ := bA (bS hb)
       have n1_ := bA (hbox)
       have n2_ := bA (bZ hg)
       have n3_ := bA (bZ hg)
       have z_NB453_452 := fun (h0_ : up b 15 14 = true) (h1_ : up b 15 15 = true) => (show gb453 ≠ gb452 from (by rw [hg]; exact Nat.ne_of_gt ((Bool.eq_false_or_eq_true _).elim (fun q_ => blk_lt (Q_BK452_e18 q_)) (fun q_ => blk_lt (Q_BK452 h0_ q_)))))
       have z_NB452_453 := fun (h0_ : up b 15 14 = true) (h1_ : up b 15 15 = true) => (show gb452 ≠ gb453 from (by rw [hg]; exact Nat.ne_of_lt ((Bool.eq_false_or_eq_true _).elim (fun q_ => blk_lt (Q_BK452_e18 q_)) (fun q_ => blk_lt (Q_BK452 h0_ q_)))))
       have z_NB454_453 := fun (h0_ : up b 15 15 = true) (h1_ : up b 15 16 = true) => (show gb454 ≠ gb453 from (by rw [hg]; exact Nat.ne_of_lt ((Bool.eq_false_or_eq_true _).elim (fun q_ => blk_lt (Q_BK454_e20 q_)) (fun q_ => blk_lt (Q_BK454 h1_ q_)))))
       have z_NB453_454 := fun (h0_ : up b 15 15 = true) (h1_ : up b 15 16 = true) => (show gb453 ≠ gb454 from (by rw [hg]; exact Nat.ne_of_gt ((Bool.eq_false_or_eq_true _).elim (fun q_ => blk_lt (Q_BK454_e20 q_)) (fun q_ => blk_lt (Q_BK454 h1_ q_)))))
       have z_NB455_453 := fun (h0_ : up b 15 15 = true) (h1_ : up b 15 17 = true) => (show gb455 ≠ gb453 from (by rw [hg]; exact Nat.ne_of_lt ((Bool.eq_false_or_eq_true _).elim (fun q_ => blk_lt (Q_BK455_e21 q_)) (fun q_ => blk_lt (Q_BK455 h1_ q_)))))
       have z_NB453_455 := fun (h0_ : up b 15 15 = true) (h1_ : up b 15 17 = true) => (show gb453 ≠ gb455 from (by rw [hg]; exact Nat.ne_of_gt ((Bool.eq_false_or_eq_true _).elim (fun q_ => blk_lt (Q_BK455_e21 q_)) (fun q_ => blk_lt (Q_BK455 h1_ q_)))))
       have z_BK452 := fun (h0_ : b 14 = true) (h1_ : b 18 = false) => (show w22.heap[gb452]? = some (.cells #[.int .i64 0, .int .i64 0] 41 (0, 0)) from by first | exact (blk_below (g := gb452) (o := .cells #[.int .i64 0, .int .i64 0] 41 (0, 0)) (by (with_reducible repeat (first | refine blk_drewN ?_ _ | refine blk_drew ?_ | refine blk_alloc ?_ _)); exact (Q_BK452 h0_ h1_)) hb))
       have z_BK454 := fun (h0_ : b 16 = true) (h1_ : b 20 = false) => (show w22.heap[gb454]? = some (.cells #[.int .i64 0, .int .i64 0] 41 (0, 0)) from by first | exact (blk_below (g := gb454) (o := .cells #[.int .i64 0, .int .i64 0] 41 (0, 0)) (by (with_reducible repeat (first | refine blk_drewN ?_ _ | refine blk_drew ?_ | refine blk_alloc ?_ _)); exact (Q_BK454 h0_ h1_)) hb))
       have z_BK455 := fun (h0_ : b 17 = true) (h1_ : b 21 = false) => (show w22.heap[gb455]? = some (.cells #[.int .i64 0, .int .i64 0] 41 (0, 0)) from by first | exact (blk_below (g := gb455) (o := .cells #[.int .i64 0, .int .i64 0] 41 (0, 0)) (by (with_reducible repeat (first | refine blk_drewN ?_ _ | refine blk_drew ?_ | refine blk_alloc ?_ _)); exact (Q_BK455 h0_ h1_)) hb))
       clear HB
       have HB := n0_
       have BK453 := n1_
       have GW453 := n2_
       have GE453 := n3_
       clear n0_ n1_ n2_ n3_
       clear hb hbox hg
       refine hK.out _ _ ⟨gb452, gb453, gb454, gb455, m14_, (.pointer (some ⟨gb453, 0, none⟩)), m16_, m17_, (by rw [ha.out]; exact putSel_upk 7 hb_ rfl rfl rfl), bX, z_NB453_452, z_NB452_453, Q_NB454_452, Q_NB452_454, Q_NB455_452, Q_NB452_455, z_NB454_453, z_NB453_454, z_NB455_453, z_NB453_455, Q_NB455_454, Q_NB454_455, z_BK452, Q_GW452, Q_GE452, fun _ _ => (bP BK453), fun _ => GW453.out, fun _ => GE453.out, z_BK454, Q_GW454, Q_GE454, z_BK455, Q_GW455, Q_GE455, fun h0_ => absurd ((hoff 18 (by kernel_rfl)).symm.trans h0_) (by decide), fun h0_ => absurd ((hoff 19 (by kernel_rfl)).symm.trans h0_) (by decide), fun h0_ => absurd ((hoff 20 (by kernel_rfl)).symm.trans h0_) (by decide), fun h0_ => absurd ((hoff 21 (by kernel_rfl)).symm.trans h0_) (by decide), Q_X14_, fun _ => rfl, Q_X16_, Q_X17_⟩
      refine steps_cons ?_ ?_
      ·rintro b a w' ⟨gb452, gb453, gb454, gb455, m14_, m15_, m16_, m17_, ha, Q_HB, Q_NB453_452, Q_NB452_453, Q_NB454_452, Q_NB452_454, Q_NB455_452, Q_NB452_455, Q_NB454_453, Q_NB453_454, Q_NB455_453, Q_NB453_455, Q_NB455_454, Q_NB454_455, Q_BK452, Q_GW452, Q_GE452, Q_BK453, Q_GW453, Q_GE453, Q_BK454, Q_GW454, Q_GE454, Q_BK455, Q_GW455, Q_GE455, Q_BK452_e18, Q_BK453_e19, Q_BK454_e20, Q_BK455_e21, Q_X14_, Q_X15_, Q_X16_, Q_X17_⟩ hb_ hon hoff
       refine ⟨_, rfl, fun K hK => ?_⟩
       replace ha := bA ha
       have HB := bA Q_HB
       refine bT (N := 9) (cs := #[.int .i64 0, .int .i64 0]) (t := 41) ?_
       intro gb454 hg w22 hbox hb
       have n0_ := bA (bS hb)
       have n1_ := bA (hbox)
       have n2_ := bA (bZ hg)
       have n3_ := bA (bZ hg)
       have z_NB454_452 := fun (h0_ : up b 16 14 = true) (h1_ : up b 16 16 = true) => (show gb454 ≠ gb452 from (by rw [hg]; exact Nat.ne_of_gt ((Bool.eq_false_or_eq_true _).elim (fun q_ => blk_lt (Q_BK452_e18 q_)) (fun q_ => blk_lt (Q_BK452 h0_ q_)))))
       have z_NB452_454 := fun (h0_ : up b 16 14 = true) (h1_ : up b 16 16 = true) => (show gb452 ≠ gb454 from (by rw [hg]; exact Nat.ne_of_lt ((Bool.eq_false_or_eq_true _).elim (fun q_ => blk_lt (Q_BK452_e18 q_)) (fun q_ => blk_lt (Q_BK452 h0_ q_)))))
       have z_NB454_453 := fun (h0_ : up b 16 15 = true) (h1_ : up b 16 16 = true) => (show gb454 ≠ gb453 from (by rw [hg]; exact Nat.ne_of_gt ((Bool.eq_false_or_eq_true _).elim (fun q_ => blk_lt (Q_BK453_e19 q_)) (fun q_ => blk_lt (Q_BK453 h0_ q_)))))
       have z_NB453_454 := fun (h0_ : up b 16 15 = true) (h1_ : up b 16 16 = true) => (show gb453 ≠ gb454 from (by rw [hg]; exact Nat.ne_of_lt ((Bool.eq_false_or_eq_true _).elim (fun q_ => blk_lt (Q_BK453_e19 q_)) (fun q_ => blk_lt (Q_BK453 h0_ q_)))))
       have z_NB455_454 := fun (h0_ : up b 16 16 = true) (h1_ : up b 16 17 = true) => (show gb455 ≠ gb454 from (by rw [hg]; exact Nat.ne_of_lt ((Bool.eq_false_or_eq_true _).elim (fun q_ => blk_lt (Q_BK455_e21 q_)) (fun q_ => blk_lt (Q_BK455 h1_ q_)))))
       have z_NB454_455 := fun (h0_ : up b 16 16 = true) (h1_ : up b 16 17 = true) => (show gb454 ≠ gb455 from (by rw [hg]; exact Nat.ne_of_gt ((Bool.eq_false_or_eq_true _).elim (fun q_ => blk_lt (Q_BK455_e21 q_)) (fun q_ => blk_lt (Q_BK455 h1_ q_)))))
       have z_BK452 := fun (h0_ : b 14 = true) (h1_ : b 18 = false) => (show w22.heap[gb452]? = some (.cells #[.int .i64 0, .int .i64 0] 41 (0, 0)) from by first | exact (blk_below (g := gb452) (o := .cells #[.int .i64 0, .int .i64 0] 41 (0, 0)) (by (with_reducible repeat (first | refine blk_drewN ?_ _ | refine blk_drew ?_ | refine blk_alloc ?_ _)); exact (Q_BK452 h0_ h1_)) hb))
       have z_BK453 := fun (h0_ : b 15 = true) (h1_ : b 19 = false) => (show w22.heap[gb453]? = some (.cells #[.int .i64 0, .int .i64 0] 41 (0, 0)) from by first | exact (blk_below (g := gb453) (o := .cells #[.int .i64 0, .int .i64 0] 41 (0, 0)) (by (with_reducible repeat (first | refine blk_drewN ?_ _ | refine blk_drew ?_ | refine blk_alloc ?_ _)); exact (Q_BK453 h0_ h1_)) hb))
       have z_BK455 := fun (h0_ : b 17 = true) (h1_ : b 21 = false) => (show w22.heap[gb455]? = some (.cells #[.int .i64 0, .int .i64 0] 41 (0, 0)) from by first | exact (blk_below (g := gb455) (o := .cells #[.int .i64 0, .int .i64 0] 41 (0, 0)) (by (with_reducible repeat (first | refine blk_drewN ?_ _ | refine blk_drew ?_ | refine blk_alloc ?_ _)); exact (Q_BK455 h0_ h1_)) hb))
       clear HB
       have HB := n0_
       have BK454 := n1_
       have GW454 := n2_
       have GE454 := n3_
       clear n0_ n1_ n2_ n3_
       clear hb hbox hg
       refine hK.out _ _ ⟨gb452, gb453, gb454, gb455, m14_, m15_, (.pointer (some ⟨gb454, 0, none⟩)), m17_, (by rw [ha.out]; exact putSel_upk 8 hb_ rfl rfl rfl), bX, Q_NB453_452, Q_NB452_453, z_NB454_452, z_NB452_454, Q_NB455_452, Q_NB452_455, z_NB454_453, z_NB453_454, Q_NB455_453, Q_NB453_455, z_NB455_454, z_NB454_455, z_BK452, Q_GW452, Q_GE452, z_BK453, Q_GW453, Q_GE453, fun _ _ => (bP BK454), fun _ => GW454.out, fun _ => GE454.out, z_BK455, Q_GW455, Q_GE455, fun h0_ => absurd ((hoff 18 (by kernel_rfl)).symm.trans h0_) (by decide), fun h0_ => absurd ((hoff 19 (by kernel_rfl)).symm.trans h0_) (by decide), fun h0_ => absurd ((hoff 20 (by kernel_rfl)).symm.trans h0_) (by decide), fun h0_ => absurd ((hoff 21 (by kernel_rfl)).symm.trans h0_) (by decide), Q_X14_, Q_X15_, fun _ => rfl, Q_X17_⟩
      refine steps_cons ?_ ?_
      ·rintro b a w' ⟨gb452, gb453, gb454, gb455, m14_, m15_, m16_, m17_, ha, Q_HB, Q_NB453_452, Q_NB452_453, Q_NB454_452, Q_NB452_454, Q_NB455_452, Q_NB452_455, Q_NB454_453, Q_NB453_454, Q_NB455_453, Q_NB453_455, Q_NB455_454, Q_NB454_455, Q_BK452, Q_GW452, Q_GE452, Q_BK453, Q_GW453, Q_GE453, Q_BK454, Q_GW454, Q_GE454, Q_BK455, Q_GW455, Q_GE455, Q_BK452_e18, Q_BK453_e19, Q_BK454_e20, Q_BK455_e21, Q_X14_, Q_X15_, Q_X16_, Q_X17_⟩ hb_ hon hoff
       refine ⟨_, rfl, fun K hK => ?_⟩
       replace ha := bA ha
       have HB := bA Q_HB
       refine bT (N := 10) (cs := #[.int .i64 0, .int .i64 0]) (t := 41) ?_
       intro gb455 hg w22 hbox hb
       have n0_ := bA (bS hb)
       have n1_ := bA (hbox)
       have n2_ := bA (bZ hg)
       have n3_ := bA (bZ hg)
       have z_NB455_452 := fun (h0_ : up b 17 14 = true) (h1_ : up b 17 17 = true) => (show gb455 ≠ gb452 from (by rw [hg]; exact Nat.ne_of_gt ((Bool.eq_false_or_eq_true _).elim (fun q_ => blk_lt (Q_BK452_e18 q_)) (fun q_ => blk_lt (Q_BK452 h0_ q_)))))
       have z_NB452_455 := fun (h0_ : up b 17 14 = true) (h1_ : up b 17 17 = true) => (show gb452 ≠ gb455 from (by rw [hg]; exact Nat.ne_of_lt ((Bool.eq_false_or_eq_true _).elim (fun q_ => blk_lt (Q_BK452_e18 q_)) (fun q_ => blk_lt (Q_BK452 h0_ q_)))))
       have z_NB455_453 := fun (h0_ : up b 17 15 = true) (h1_ : up b 17 17 = true) => (show gb455 ≠ gb453 from (by rw [hg]; exact Nat.ne_of_gt ((Bool.eq_false_or_eq_true _).elim (fun q_ => blk_lt (Q_BK453_e19 q_)) (fun q_ => blk_lt (Q_BK453 h0_ q_)))))
       have z_NB453_455 := fun (h0_ : up b 17 15 = true) (h1_ : up b 17 17 = true) => (show gb453 ≠ gb455 from (by rw [hg]; exact Nat.ne_of_lt ((Bool.eq_false_or_eq_true _).elim (fun q_ => blk_lt (Q_BK453_e19 q_)) (fun q_ => blk_lt (Q_BK453 h0_ q_)))))
       have z_NB455_454 := fun (h0_ : up b 17 16 = true) (h1_ : up b 17 17 = true) => (show gb455 ≠ gb454 from (by rw [hg]; exact Nat.ne_of_gt ((Bool.eq_false_or_eq_true _).elim (fun q_ => blk_lt (Q_BK454_e20 q_)) (fun q_ => blk_lt (Q_BK454 h0_ q_)))))
       have z_NB454_455 := fun (h0_ : up b 17 16 = true) (h1_ : up b 17 17 = true) => (show gb454 ≠ gb455 from (by rw [hg]; exact Nat.ne_of_lt ((Bool.eq_false_or_eq_true _).elim (fun q_ => blk_lt (Q_BK454_e20 q_)) (fun q_ => blk_lt (Q_BK454 h0_ q_)))))
       have z_BK452 := fun (h0_ : b 14 = true) (h1_ : b 18 = false) => (show w22.heap[gb452]? = some (.cells #[.int .i64 0, .int .i64 0] 41 (0, 0)) from by first | exact (blk_below (g := gb452) (o := .cells #[.int .i64 0, .int .i64 0] 41 (0, 0)) (by (with_reducible repeat (first | refine blk_drewN ?_ _ | refine blk_drew ?_ | refine blk_alloc ?_ _)); exact (Q_BK452 h0_ h1_)) hb))
       have z_BK453 := fun (h0_ : b 15 = true) (h1_ : b 19 = false) => (show w22.heap[gb453]? = some (.cells #[.int .i64 0, .int .i64 0] 41 (0, 0)) from by first | exact (blk_below (g := gb453) (o := .cells #[.int .i64 0, .int .i64 0] 41 (0, 0)) (by (with_reducible repeat (first | refine blk_drewN ?_ _ | refine blk_drew ?_ | refine blk_alloc ?_ _)); exact (Q_BK453 h0_ h1_)) hb))
       have z_BK454 := fun (h0_ : b 16 = true) (h1_ : b 20 = false) => (show w22.heap[gb454]? = some (.cells #[.int .i64 0, .int .i64 0] 41 (0, 0)) from by first | exact (blk_below (g := gb454) (o := .cells #[.int .i64 0, .int .i64 0] 41 (0, 0)) (by (with_reducible repeat (first | refine blk_drewN ?_ _ | refine blk_drew ?_ | refine blk_alloc ?_ _)); exact (Q_BK454 h0_ h1_)) hb))
       clear HB
       have HB := n0_
       have BK455 := n1_
       have GW455 := n2_
       have GE455 := n3_
       clear n0_ n1_ n2_ n3_
       clear hb hbox hg
       refine hK.out _ _ ⟨gb452, gb453, gb454, gb455, m14_, m15_, m16_, (.pointer (some ⟨gb455, 0, none⟩)), (by rw [ha.out]; exact putSel_upk 9 hb_ rfl rfl rfl), bX, Q_NB453_452, Q_NB452_453, Q_NB454_452, Q_NB452_454, z_NB455_452, z_NB452_455, Q_NB454_453, Q_NB453_454, z_NB455_453, z_NB453_455, z_NB455_454, z_NB454_455, z_BK452, Q_GW452, Q_GE452, z_BK453, Q_GW453, Q_GE453, z_BK454, Q_GW454, Q_GE454, fun _ _ => (bP BK455), fun _ => GW455.out, fun _ => GE455.out, fun h0_ => absurd ((hoff 18 (by kernel_rfl)).symm.trans h0_) (by decide), fun h0_ => absurd ((hoff 19 (by kernel_rfl)).symm.trans h0_) (by decide), fun h0_ => absurd ((hoff 20 (by kernel_rfl)).symm.trans h0_) (by decide), fun h0_ => absurd ((hoff 21 (by kernel_rfl)).symm.trans h0_) (by decide), Q_X14_, Q_X15_, Q_X16_, fun _ => rfl⟩
      refine steps_cons ?_ ?_
      ·rintro b a w' ⟨gb452, gb453, gb454, gb455, m14_, m15_, m16_, m17_, ha, Q_HB, Q_NB453_452, Q_NB452_453, Q_NB454_452, Q_NB452_454, Q_NB455_452, Q_NB452_455, Q_NB454_453, Q_NB453_454, Q_NB455_453, Q_NB453_455, Q_NB455_454, Q_NB454_455, Q_BK452, Q_GW452, Q_GE452, Q_BK453, Q_GW453, Q_GE453, Q_BK454, Q_GW454, Q_GE454, Q_BK455, Q_GW455, Q_GE455, Q_BK452_e18, Q_BK453_e19, Q_BK454_e20, Q_BK455_e21, Q_X14_, Q_X15_, Q_X16_, Q_X17_⟩ hb_ hon hoff
       refine ⟨_, rfl, fun K hK => ?_⟩
       have e7 : a.tmps[7]? = some (m14_) := by rw [ha]; exact putSel_on (e := (14, 7, m14_)) 6 rfl rfl (hon 14 (by kernel_rfl)) rfl
       rw [Q_X14_ (hon 14 (by kernel_rfl))] at e7
       have e45 : a.tmps[45]? = some (.agg #[.int .i64 ((rd_T41 l0 x5_3).f0), .int .i64 ((rd_T41 l0 x5_3).f1)]) := by rw [ha]; exact putSel_on (e := (3, 45, .agg #[.int .i64 ((rd_T41 l0 x5_3).f0), .int .i64 ((rd_T41 l0 x5_3).f1)])) 1 rfl rfl (hon 3 (by kernel_rfl)) rfl
       replace ha := bA ha
       have HB := bA Q_HB
       have NB453_452 := bA (Q_NB453_452 (hon 14 (by kernel_rfl)) (hon 15 (by kernel_rfl)))
       have NB452_453 := bA (Q_NB452_453 (hon 14 (by kernel_rfl)) (hon 15 (by kernel_rfl)))
       have NB454_452 := bA (Q_NB454_452 (hon 14 (by kernel_rfl)) (hon 16 (by kernel_rfl)))
       have NB452_454 := bA (Q_NB452_454 (hon 14 (by kernel_rfl)) (hon 16 (by kernel_rfl)))
       have NB455_452 := bA (Q_NB455_452 (hon 14 (by kernel_rfl)) (hon 17 (by kernel_rfl)))
       have NB452_455 := bA (Q_NB452_455 (hon 14 (by kernel_rfl)) (hon 17 (by kernel_rfl)))
       have NB454_453 := bA (Q_NB454_453 (hon 15 (by kernel_rfl)) (hon 16 (by kernel_rfl)))
       have NB453_454 := bA (Q_NB453_454 (hon 15 (by kernel_rfl)) (hon 16 (by kernel_rfl)))
       have NB455_453 := bA (Q_NB455_453 (hon 15 (by kernel_rfl)) (hon 17 (by kernel_rfl)))
       have NB453_455 := bA (Q_NB453_455 (hon 15 (by kernel_rfl)) (hon 17 (by kernel_rfl)))
       have NB455_454 := bA (Q_NB455_454 (hon 16 (by kernel_rfl)) (hon 17 (by kernel_rfl)))
       have NB454_455 := bA (Q_NB454_455 (hon 16 (by kernel_rfl)) (hon 17 (by kernel_rfl)))
       have BK452 := bA (Q_BK452 (hon 14 (by kernel_rfl)) hb_)
       have GW452 := bA (Q_GW452 (hon 14 (by kernel_rfl)))
       have GE452 := bA (Q_GE452 (hon 14 (by kernel_rfl)))
       have BK453 := bA (Q_BK453 (hon 15 (by kernel_rfl)) (hoff 19 (by kernel_rfl)))
       have GW453 := bA (Q_GW453 (hon 15 (by kernel_rfl)))
       have GE453 := bA (Q_GE453 (hon 15 (by kernel_rfl)))
       have BK454 := bA (Q_BK454 (hon 16 (by kernel_rfl)) (hoff 20 (by kernel_rfl)))
       have GW454 := bA (Q_GW454 (hon 16 (by kernel_rfl)))
       have GE454 := bA (Q_GE454 (hon 16 (by kernel_rfl)))
       have BK455 := bA (Q_BK455 (hon 17 (by kernel_rfl)) (hoff 21 (by kernel_rfl)))
       have GW455 := bA (Q_GW455 (hon 17 (by kernel_rfl)))
       have GE455 := bA (Q_GE455 (hon 17 (by kernel_rfl)))
       have hs29 : w'.cell? ⟨gb452, 0, none⟩ = some (.int .i64 0) := bq BK452 0
       have hfs29 := blk_frozen BK452.out 0
       have hns29_1 := NB453_452.out
       have hns29_2 := NB454_452.out
       have hns29_3 := NB455_452.out
       have hms29_1 := NB452_453.out
       have hms29_2 := NB452_454.out
       have hms29_3 := NB452_455.out
       have hs30 : w'.cell? ⟨gb452, 1, none⟩ = some (.int .i64 0) := bq BK452 1
       have hfs30 := blk_frozen BK452.out 1
       have hns30_1 := NB453_452.out
       have hns30_2 := NB454_452.out
       have hns30_3 := NB455_452.out
       have hms30_1 := NB452_453.out
       have hms30_2 := NB452_454.out
       have hms30_3 := NB452_455.out
       refine skip_ (w1 := ?_) (by rfl) rfl ?_ ?_
       rotate_left
       ·go_simp
        rfl
       refine hK.out _ _ ⟨gb452, gb453, gb454, gb455, m14_, m15_, m16_, m17_, (by rw [ha.out]; exact putSel_none (v := undef) rfl), bX, fun _ _ => NB453_452.out, fun _ _ => NB452_453.out, fun _ _ => NB454_452.out, fun _ _ => NB452_454.out, fun _ _ => NB455_452.out, fun _ _ => NB452_455.out, fun _ _ => NB454_453.out, fun _ _ => NB453_454.out, fun _ _ => NB455_453.out, fun _ _ => NB453_455.out, fun _ _ => NB455_454.out, fun _ _ => NB454_455.out, fun _ h1_ => absurd ((up_self b 18).symm.trans h1_) (by decide), fun _ => GW452.out, fun _ => GE452.out, fun _ _ => (by (repeat ((with_reducible repeat (first | refine blk_drewN ?_ _ | refine blk_drew ?_ | refine blk_alloc ?_ _)); refine blk_far ?_ NB453_452.out _)); (with_reducible repeat (first | refine blk_drewN ?_ _ | refine blk_drew ?_ | refine blk_alloc ?_ _)); exact BK453.out), fun _ => GW453.out, fun _ => GE453.out, fun _ _ => (by (repeat ((with_reducible repeat (first | refine blk_drewN ?_ _ | refine blk_drew ?_ | refine blk_alloc ?_ _)); refine blk_far ?_ NB454_452.out _)); (with_reducible repeat (first | refine blk_drewN ?_ _ | refine blk_drew ?_ | refine blk_alloc ?_ _)); exact BK454.out), fun _ => GW454.out, fun _ => GE454.out, fun _ _ => (by (repeat ((with_reducible repeat (first | refine blk_drewN ?_ _ | refine blk_drew ?_ | refine blk_alloc ?_ _)); refine blk_far ?_ NB455_452.out _)); (with_reducible repeat (first | refine blk_drewN ?_ _ | refine blk_drew ?_ | refine blk_alloc ?_ _)); exact BK455.out), fun _ => GW455.out, fun _ => GE455.out, fun _ => (by (with_reducible repeat (first | refine blk_drewN ?_ _ | refine blk_drew ?_ | refine blk_alloc ?_ _)); refine blk_put (cs := #[.int .i64 ((rd_T41 l0 x5_3).f0), .int .i64 0]) ?_ 1 _ rfl; (with_reducible repeat (first | refine blk_drewN ?_ _ | refine blk_drew ?_ | refine blk_alloc ?_ _)); refine blk_put (cs := #[.int .i64 0, .int .i64 0]) ?_ 0 _ rfl; (with_reducible repeat (first | refine blk_drewN ?_ _ | refine blk_drew ?_ | refine blk_alloc ?_ _)); exact BK452.out), fun h0_ => absurd ((hoff 19 (by kernel_rfl)).symm.trans h0_) (by decide), fun h0_ => absurd ((hoff 20 (by kernel_rfl)).symm.trans h0_) (by decide), fun h0_ => absurd ((hoff 21 (by kernel_rfl)).symm.trans h0_) (by decide), Q_X14_, Q_X15_, Q_X16_, Q_X17_⟩
      refine steps_cons ?_ ?_
      ·rintro b a w' ⟨gb452, gb453, gb454, gb455, m14_, m15_, m16_, m17_, ha, Q_HB, Q_NB453_452, Q_NB452_453, Q_NB454_452, Q_NB452_454, Q_NB455_452, Q_NB452_455, Q_NB454_453, Q_NB453_454, Q_NB455_453, Q_NB453_455, Q_NB455_454, Q_NB454_455, Q_BK452, Q_GW452, Q_GE452, Q_BK453, Q_GW453, Q_GE453, Q_BK454, Q_GW454, Q_GE454, Q_BK455, Q_GW455, Q_GE455, Q_BK452_e18, Q_BK453_e19, Q_BK454_e20, Q_BK455_e21, Q_X14_, Q_X15_, Q_X16_, Q_X17_⟩ hb_ hon hoff
       refine ⟨_, rfl, fun K hK => ?_⟩
       have e8 : a.tmps[8]? = some (m15_) := by rw [ha]; exact putSel_on (e := (15, 8, m15_)) 7 rfl rfl (hon 15 (by kernel_rfl)) rfl
       rw [Q_X15_ (hon 15 (by kernel_rfl))] at e8
       have e48 : a.tmps[48]? = some (.agg #[.int .i64 t447, .int .i64 t448]) := by rw [ha]; exact putSel_on (e := (6, 48, .agg #[.int .i64 t447, .int .i64 t448])) 2 rfl rfl (hon 6 (by kernel_rfl)) rfl
       replace ha := bA ha
       have HB := bA Q_HB
       have NB453_452 := bA (Q_NB453_452 (hon 14 (by kernel_rfl)) (hon 15 (by kernel_rfl)))
       have NB452_453 := bA (Q_NB452_453 (hon 14 (by kernel_rfl)) (hon 15 (by kernel_rfl)))
       have NB454_452 := bA (Q_NB454_452 (hon 14 (by kernel_rfl)) (hon 16 (by kernel_rfl)))
       have NB452_454 := bA (Q_NB452_454 (hon 14 (by kernel_rfl)) (hon 16 (by kernel_rfl)))
       have NB455_452 := bA (Q_NB455_452 (hon 14 (by kernel_rfl)) (hon 17 (by kernel_rfl)))
       have NB452_455 := bA (Q_NB452_455 (hon 14 (by kernel_rfl)) (hon 17 (by kernel_rfl)))
       have NB454_453 := bA (Q_NB454_453 (hon 15 (by kernel_rfl)) (hon 16 (by kernel_rfl)))
       have NB453_454 := bA (Q_NB453_454 (hon 15 (by kernel_rfl)) (hon 16 (by kernel_rfl)))
       have NB455_453 := bA (Q_NB455_453 (hon 15 (by kernel_rfl)) (hon 17 (by kernel_rfl)))
       have NB453_455 := bA (Q_NB453_455 (hon 15 (by kernel_rfl)) (hon 17 (by kernel_rfl)))
       have NB455_454 := bA (Q_NB455_454 (hon 16 (by kernel_rfl)) (hon 17 (by kernel_rfl)))
       have NB454_455 := bA (Q_NB454_455 (hon 16 (by kernel_rfl)) (hon 17 (by kernel_rfl)))
       have GW452 := bA (Q_GW452 (hon 14 (by kernel_rfl)))
       have GE452 := bA (Q_GE452 (hon 14 (by kernel_rfl)))
       have BK453 := bA (Q_BK453 (hon 15 (by kernel_rfl)) hb_)
       have GW453 := bA (Q_GW453 (hon 15 (by kernel_rfl)))
       have GE453 := bA (Q_GE453 (hon 15 (by kernel_rfl)))
       have BK454 := bA (Q_BK454 (hon 16 (by kernel_rfl)) (hoff 20 (by kernel_rfl)))
       have GW454 := bA (Q_GW454 (hon 16 (by kernel_rfl)))
       have GE454 := bA (Q_GE454 (hon 16 (by kernel_rfl)))
       have BK455 := bA (Q_BK455 (hon 17 (by kernel_rfl)) (hoff 21 (by kernel_rfl)))
       have GW455 := bA (Q_GW455 (hon 17 (by kernel_rfl)))
       have GE455 := bA (Q_GE455 (hon 17 (by kernel_rfl)))
       have BK452 := bA (Q_BK452_e18 (hon 18 (by kernel_rfl)))
       have hs31 : w'.cell? ⟨gb453, 0, none⟩ = some (.int .i64 0) := bq BK453 0
       have hfs31 := blk_frozen BK453.out 0
       have hns31_0 := NB452_453.out
       have hns31_2 := NB454_453.out
       have hns31_3 := NB455_453.out
       have hms31_0 := NB453_452.out
       have hms31_2 := NB453_454.out
       have hms31_3 := NB453_455.out
       have hs32 : w'.cell? ⟨gb453, 1, none⟩ = some (.int .i64 0) := bq BK453 1
       have hfs32 := blk_frozen BK453.out 1
       have hns32_0 := NB452_453.out
       have hns32_2 := NB454_453.out
       have hns32_3 := NB455_453.out
       have hms32_0 := NB453_452.out
       have hms32_2 := NB453_454.out
       have hms32_3 := NB453_455.out
       refine skip_ (w1 := ?_) (by rfl) rfl ?_ ?_
       rotate_left
       ·go_simp
        rfl
       refine hK.out _ _ ⟨gb452, gb453, gb454, gb455, m14_, m15_, m16_, m17_, (by rw [ha.out]; exact putSel_none (v := undef) rfl), bX, fun _ _ => NB453_452.out, fun _ _ => NB452_453.out, fun _ _ => NB454_452.out, fun _ _ => NB452_454.out, fun _ _ => NB455_452.out, fun _ _ => NB452_455.out, fun _ _ => NB454_453.out, fun _ _ => NB453_454.out, fun _ _ => NB455_453.out, fun _ _ => NB453_455.out, fun _ _ => NB455_454.out, fun _ _ => NB454_455.out, fun _ h1_ => absurd ((hon 18 (by kernel_rfl)).symm.trans h1_) (by decide), fun _ => GW452.out, fun _ => GE452.out, fun _ h1_ => absurd ((up_self b 19).symm.trans h1_) (by decide), fun _ => GW453.out, fun _ => GE453.out, fun _ _ => (by (repeat ((with_reducible repeat (first | refine blk_drewN ?_ _ | refine blk_drew ?_ | refine blk_alloc ?_ _)); refine blk_far ?_ NB454_453.out _)); (with_reducible repeat (first | refine blk_drewN ?_ _ | refine blk_drew ?_ | refine blk_alloc ?_ _)); exact BK454.out), fun _ => GW454.out, fun _ => GE454.out, fun _ _ => (by (repeat ((with_reducible repeat (first | refine blk_drewN ?_ _ | refine blk_drew ?_ | refine blk_alloc ?_ _)); refine blk_far ?_ NB455_453.out _)); (with_reducible repeat (first | refine blk_drewN ?_ _ | refine blk_drew ?_ | refine blk_alloc ?_ _)); exact BK455.out), fun _ => GW455.out, fun _ => GE455.out, fun _ => (by (repeat ((with_reducible repeat (first | refine blk_drewN ?_ _ | refine blk_drew ?_ | refine blk_alloc ?_ _)); refine blk_far ?_ NB452_453.out _)); (with_reducible repeat (first | refine blk_drewN ?_ _ | refine blk_drew ?_ | refine blk_alloc ?_ _)); exact BK452.out), fun _ => (by (with_reducible repeat (first | refine blk_drewN ?_ _ | refine blk_drew ?_ | refine blk_alloc ?_ _)); refine blk_put (cs := #[.int .i64 t447, .int .i64 0]) ?_ 1 _ rfl; (with_reducible repeat (first | refine blk_drewN ?_ _ | refine blk_drew ?_ | refine blk_alloc ?_ _)); refine blk_put (cs := #[.int .i64 0, .int .i64 0]) ?_ 0 _ rfl; (with_reducible repeat (first | refine blk_drewN ?_ _ | refine blk_drew ?_ | refine blk_alloc ?_ _)); exact BK453.out), fun h0_ => absurd ((hoff 20 (by kernel_rfl)).symm.trans h0_) (by decide), fun h0_ => absurd ((hoff 21 (by kernel_rfl)).symm.trans h0_) (by decide), Q_X14_, Q_X15_, Q_X16_, Q_X17_⟩
      refine steps_cons ?_ ?_
      ·rintro b a w' ⟨gb452, gb453, gb454, gb455, m14_, m15_, m16_, m17_, ha, Q_HB, Q_NB453_452, Q_NB452_453, Q_NB454_452, Q_NB452_454, Q_NB455_452, Q_NB452_455, Q_NB454_453, Q_NB453_454, Q_NB455_453, Q_NB453_455, Q_NB455_454, Q_NB454_455, Q_BK452, Q_GW452, Q_GE452, Q_BK453, Q_GW453, Q_GE453, Q_BK454, Q_GW454, Q_GE454, Q_BK455, Q_GW455, Q_GE455, Q_BK452_e18, Q_BK453_e19, Q_BK454_e20, Q_BK455_e21, Q_X14_, Q_X15_, Q_X16_, Q_X17_⟩ hb_ hon hoff
       refine ⟨_, rfl, fun K hK => ?_⟩
       have e9 : a.tmps[9]? = some (m16_) := by rw [ha]; exact putSel_on (e := (16, 9, m16_)) 8 rfl rfl (hon 16 (by kernel_rfl)) rfl
       rw [Q_X16_ (hon 16 (by kernel_rfl))] at e9
       have e52 : a.tmps[52]? = some (.agg #[.int .i64 ((rd_T41 l0 x6_4).f0), .int .i64 ((rd_T41 l0 x6_4).f1)]) := by rw [ha]; exact putSel_on (e := (10, 52, .agg #[.int .i64 ((rd_T41 l0 x6_4).f0), .int .i64 ((rd_T41 l0 x6_4).f1)])) 4 rfl rfl (hon 10 (by kernel_rfl)) rfl
       replace ha := bA ha
       have HB := bA Q_HB
       have NB453_452 := bA (Q_NB453_452 (hon 14 (by kernel_rfl)) (hon 15 (by kernel_rfl)))
       have NB452_453 := bA (Q_NB452_453 (hon 14 (by kernel_rfl)) (hon 15 (by kernel_rfl)))
       have NB454_452 := bA (Q_NB454_452 (hon 14 (by kernel_rfl)) (hon 16 (by kernel_rfl)))
       have NB452_454 := bA (Q_NB452_454 (hon 14 (by kernel_rfl)) (hon 16 (by kernel_rfl)))
       have NB455_452 := bA (Q_NB455_452 (hon 14 (by kernel_rfl)) (hon 17 (by kernel_rfl)))
       have NB452_455 := bA (Q_NB452_455 (hon 14 (by kernel_rfl)) (hon 17 (by kernel_rfl)))
       have NB454_453 := bA (Q_NB454_453 (hon 15 (by kernel_rfl)) (hon 16 (by kernel_rfl)))
       have NB453_454 := bA (Q_NB453_454 (hon 15 (by kernel_rfl)) (hon 16 (by kernel_rfl)))
       have NB455_453 := bA (Q_NB455_453 (hon 15 (by kernel_rfl)) (hon 17 (by kernel_rfl)))
       have NB453_455 := bA (Q_NB453_455 (hon 15 (by kernel_rfl)) (hon 17 (by kernel_rfl)))
       have NB455_454 := bA (Q_NB455_454 (hon 16 (by kernel_rfl)) (hon 17 (by kernel_rfl)))
       have NB454_455 := bA (Q_NB454_455 (hon 16 (by kernel_rfl)) (hon 17 (by kernel_rfl)))
       have GW452 := bA (Q_GW452 (hon 14 (by kernel_rfl)))
       have GE452 := bA (Q_GE452 (hon 14 (by kernel_rfl)))
       have GW453 := bA (Q_GW453 (hon 15 (by kernel_rfl)))
       have GE453 := bA (Q_GE453 (hon 15 (by kernel_rfl)))
       have BK454 := bA (Q_BK454 (hon 16 (by kernel_rfl)) hb_)
       have GW454 := bA (Q_GW454 (hon 16 (by kernel_rfl)))
       have GE454 := bA (Q_GE454 (hon 16 (by kernel_rfl)))
       have BK455 := bA (Q_BK455 (hon 17 (by kernel_rfl)) (hoff 21 (by kernel_rfl)))
       have GW455 := bA (Q_GW455 (hon 17 (by kernel_rfl)))
       have GE455 := bA (Q_GE455 (hon 17 (by kernel_rfl)))
       have BK452 := bA (Q_BK452_e18 (hon 18 (by kernel_rfl)))
       have BK453 := bA (Q_BK453_e19 (hon 19 (by kernel_rfl)))
       have hs33 : w'.cell? ⟨gb454, 0, none⟩ = some (.int .i64 0) := bq BK454 0
       have hfs33 := blk_frozen BK454.out 0
       have hns33_0 := NB452_454.out
       have hns33_1 := NB453_454.out
       have hns33_3 := NB455_454.out
       have hms33_0 := NB454_452.out
       have hms33_1 := NB454_453.out
       have hms33_3 := NB454_455.out
       have hs34 : w'.cell? ⟨gb454, 1, none⟩ = some (.int .i64 0) := bq BK454 1
       have hfs34 := blk_frozen BK454.out 1
       have hns34_0 := NB452_454.out
       have hns34_1 := NB453_454.out
       have hns34_3 := NB455_454.out
       have hms34_0 := NB454_452.out
       have hms34_1 := NB454_453.out
       have hms34_3 := NB454_455.out
       refine skip_ (w1 := ?_) (by rfl) rfl ?_ ?_
       rotate_left
       ·go_simp
        rfl
       refine hK.out _ _ ⟨gb452, gb453, gb454, gb455, m14_, m15_, m16_, m17_, (by rw [ha.out]; exact putSel_none (v := undef) rfl), bX, fun _ _ => NB453_452.out, fun _ _ => NB452_453.out, fun _ _ => NB454_452.out, fun _ _ => NB452_454.out, fun _ _ => NB455_452.out, fun _ _ => NB452_455.out, fun _ _ => NB454_453.out, fun _ _ => NB453_454.out, fun _ _ => NB455_453.out, fun _ _ => NB453_455.out, fun _ _ => NB455_454.out, fun _ _ => NB454_455.out, fun _ h1_ => absurd ((hon 18 (by kernel_rfl)).symm.trans h1_) (by decide), fun _ => GW452.out, fun _ => GE452.out, fun _ h1_ => absurd ((hon 19 (by kernel_rfl)).symm.trans h1_) (by decide), fun _ => GW453.out, fun _ => GE453.out, fun _ h1_ => absurd ((up_self b 20).symm.trans h1_) (by decide), fun _ => GW454.out, fun _ => GE454.out, fun _ _ => (by (repeat ((with_reducible repeat (first | refine blk_drewN ?_ _ | refine blk_drew ?_ | refine blk_alloc ?_ _)); refine blk_far ?_ NB455_454.out _)); (with_reducible repeat (first | refine blk_drewN ?_ _ | refine blk_drew ?_ | refine blk_alloc ?_ _)); exact BK455.out), fun _ => GW455.out, fun _ => GE455.out, fun _ => (by (repeat ((with_reducible repeat (first | refine blk_drewN ?_ _ | refine blk_drew ?_ | refine blk_alloc ?_ _)); refine blk_far ?_ NB452_454.out _)); (with_reducible repeat (first | refine blk_drewN ?_ _ | refine blk_drew ?_ | refine blk_alloc ?_ _)); exact BK452.out), fun _ => (by (repeat ((with_reducible repeat (first | refine blk_drewN ?_ _ | refine blk_drew ?_ | refine blk_alloc ?_ _)); refine blk_far ?_ NB453_454.out _)); (with_reducible repeat (first | refine blk_drewN ?_ _ | refine blk_drew ?_ | refine blk_alloc ?_ _)); exact BK453.out), fun _ => (by (with_reducible repeat (first | refine blk_drewN ?_ _ | refine blk_drew ?_ | refine blk_alloc ?_ _)); refine blk_put (cs := #[.int .i64 ((rd_T41 l0 x6_4).f0), .int .i64 0]) ?_ 1 _ rfl; (with_reducible repeat (first | refine blk_drewN ?_ _ | refine blk_drew ?_ | refine blk_alloc ?_ _)); refine blk_put (cs := #[.int .i64 0, .int .i64 0]) ?_ 0 _ rfl; (with_reducible repeat (first | refine blk_drewN ?_ _ | refine blk_drew ?_ | refine blk_alloc ?_ _)); exact BK454.out), fun h0_ => absurd ((hoff 21 (by kernel_rfl)).symm.trans h0_) (by decide), Q_X14_, Q_X15_, Q_X16_, Q_X17_⟩
      refine steps_cons ?_ ?_
      ·rintro b a w' ⟨gb452, gb453, gb454, gb455, m14_, m15_, m16_, m17_, ha, Q_HB, Q_NB453_452, Q_NB452_453, Q_NB454_452, Q_NB452_454, Q_NB455_452, Q_NB452_455, Q_NB454_453, Q_NB453_454, Q_NB455_453, Q_NB453_455, Q_NB455_454, Q_NB454_455, Q_BK452, Q_GW452, Q_GE452, Q_BK453, Q_GW453, Q_GE453, Q_BK454, Q_GW454, Q_GE454, Q_BK455, Q_GW455, Q_GE455, Q_BK452_e18, Q_BK453_e19, Q_BK454_e20, Q_BK455_e21, Q_X14_, Q_X15_, Q_X16_, Q_X17_⟩ hb_ hon hoff
       refine ⟨_, rfl, fun K hK => ?_⟩
       have e10 : a.tmps[10]? = some (m17_) := by rw [ha]; exact putSel_on (e := (17, 10, m17_)) 9 rfl rfl (hon 17 (by kernel_rfl)) rfl
       rw [Q_X17_ (hon 17 (by kernel_rfl))] at e10
       have e55 : a.tmps[55]? = some (.agg #[.int .i64 t450, .int .i64 t451]) := by rw [ha]; exact putSel_on (e := (13, 55, .agg #[.int .i64 t450, .int .i64 t451])) 5 rfl rfl (hon 13 (by kernel_rfl)) rfl
       replace ha := bA ha
       have HB := bA Q_HB
       have NB453_452 := bA (Q_NB453_452 (hon 14 (by kernel_rfl)) (hon 15 (by kernel_rfl)))
       have NB452_453 := bA (Q_NB452_453 (hon 14 (by kernel_rfl)) (hon 15 (by kernel_rfl)))
       have NB454_452 := bA (Q_NB454_452 (hon 14 (by kernel_rfl)) (hon 16 (by kernel_rfl)))
       have NB452_454 := bA (Q_NB452_454 (hon 14 (by kernel_rfl)) (hon 16 (by kernel_rfl)))
       have NB455_452 := bA (Q_NB455_452 (hon 14 (by kernel_rfl)) (hon 17 (by kernel_rfl)))
       have NB452_455 := bA (Q_NB452_455 (hon 14 (by kernel_rfl)) (hon 17 (by kernel_rfl)))
       have NB454_453 := bA (Q_NB454_453 (hon 15 (by kernel_rfl)) (hon 16 (by kernel_rfl)))
       have NB453_454 := bA (Q_NB453_454 (hon 15 (by kernel_rfl)) (hon 16 (by kernel_rfl)))
       have NB455_453 := bA (Q_NB455_453 (hon 15 (by kernel_rfl)) (hon 17 (by kernel_rfl)))
       have NB453_455 := bA (Q_NB453_455 (hon 15 (by kernel_rfl)) (hon 17 (by kernel_rfl)))
       have NB455_454 := bA (Q_NB455_454 (hon 16 (by kernel_rfl)) (hon 17 (by kernel_rfl)))
       have NB454_455 := bA (Q_NB454_455 (hon 16 (by kernel_rfl)) (hon 17 (by kernel_rfl)))
       have GW452 := bA (Q_GW452 (hon 14 (by kernel_rfl)))
       have GE452 := bA (Q_GE452 (hon 14 (by kernel_rfl)))
       have GW453 := bA (Q_GW453 (hon 15 (by kernel_rfl)))
       have GE453 := bA (Q_GE453 (hon 15 (by kernel_rfl)))
       have GW454 := bA (Q_GW454 (hon 16 (by kernel_rfl)))
       have GE454 := bA (Q_GE454 (hon 16 (by kernel_rfl)))
       have BK455 := bA (Q_BK455 (hon 17 (by kernel_rfl)) hb_)
       have GW455 := bA (Q_GW455 (hon 17 (by kernel_rfl)))
       have GE455 := bA (Q_GE455 (hon 17 (by kernel_rfl)))
       have BK452 := bA (Q_BK452_e18 (hon 18 (by kernel_rfl)))
       have BK453 := bA (Q_BK453_e19 (hon 19 (by kernel_rfl)))
       have BK454 := bA (Q_BK454_e20 (hon 20 (by kernel_rfl)))
       have hs35 : w'.cell? ⟨gb455, 0, none⟩ = some (.int .i64 0) := bq BK455 0
       have hfs35 := blk_frozen BK455.out 0
       have hns35_0 := NB452_455.out
       have hns35_1 := NB453_455.out
       have hns35_2 := NB454_455.out
       have hms35_0 := NB455_452.out
       have hms35_1 := NB455_453.out
       have hms35_2 := NB455_454.out
       have hs36 : w'.cell? ⟨gb455, 1, none⟩ = some (.int .i64 0) := bq BK455 1
       have hfs36 := blk_frozen BK455.out 1
       have hns36_0 := NB452_455.out
       have hns36_1 := NB453_455.out
       have hns36_2 := NB454_455.out
       have hms36_0 := NB455_452.out
       have hms36_1 := NB455_453.out
       have hms36_2 := NB455_454.out
       refine skip_ (w1 := ?_) (by rfl) rfl ?_ ?_
       rotate_left
       ·go_simp
        rfl
       refine hK.out _ _ ⟨gb452, gb453, gb454, gb455, m14_, m15_, m16_, m17_, (by rw [ha.out]; exact putSel_none (v := undef) rfl), bX, fun _ _ => NB453_452.out, fun _ _ => NB452_453.out, fun _ _ => NB454_452.out, fun _ _ => NB452_454.out, fun _ _ => NB455_452.out, fun _ _ => NB452_455.out, fun _ _ => NB454_453.out, fun _ _ => NB453_454.out, fun _ _ => NB455_453.out, fun _ _ => NB453_455.out, fun _ _ => NB455_454.out, fun _ _ => NB454_455.out, fun _ h1_ => absurd ((hon 18 (by kernel_rfl)).symm.trans h1_) (by decide), fun _ => GW452.out, fun _ => GE452.out, fun _ h1_ => absurd ((hon 19 (by kernel_rfl)).symm.trans h1_) (by decide), fun _ => GW453.out, fun _ => GE453.out, fun _ h1_ => absurd ((hon 20 (by kernel_rfl)).symm.trans h1_) (by decide), fun _ => GW454.out, fun _ => GE454.out, fun _ h1_ => absurd ((up_self b 21).symm.trans h1_) (by decide), fun _ => GW455.out, fun _ => GE455.out, fun _ => (by (repeat ((with_reducible repeat (first | refine blk_drewN ?_ _ | refine blk_drew ?_ | refine blk_alloc ?_ _)); refine blk_far ?_ NB452_455.out _)); (with_reducible repeat (first | refine blk_drewN ?_ _ | refine blk_drew ?_ | refine blk_alloc ?_ _)); exact BK452.out), fun _ => (by (repeat ((with_reducible repeat (first | refine blk_drewN ?_ _ | refine blk_drew ?_ | refine blk_alloc ?_ _)); refine blk_far ?_ NB453_455.out _)); (with_reducible repeat (first | refine blk_drewN ?_ _ | refine blk_drew ?_ | refine blk_alloc ?_ _)); exact BK453.out), fun _ => (by (repeat ((with_reducible repeat (first | refine blk_drewN ?_ _ | refine blk_drew ?_ | refine blk_alloc ?_ _)); refine blk_far ?_ NB454_455.out _)); (with_reducible repeat (first | refine blk_drewN ?_ _ | refine blk_drew ?_ | refine blk_alloc ?_ _)); exact BK454.out), fun _ => (by (with_reducible repeat (first | refine blk_drewN ?_ _ | refine blk_drew ?_ | refine blk_alloc ?_ _)); refine blk_put (cs := #[.int .i64 t450, .int .i64 0]) ?_ 1 _ rfl; (with_reducible repeat (first | refine blk_drewN ?_ _ | refine blk_drew ?_ | refine blk_alloc ?_ _)); refine blk_put (cs := #[.int .i64 0, .int .i64 0]) ?_ 0 _ rfl; (with_reducible repeat (first | refine blk_drewN ?_ _ | refine blk_drew ?_ | refine blk_alloc ?_ _)); exact BK455.out), Q_X14_, Q_X15_, Q_X16_, Q_X17_⟩
      exact steps_nil
     rintro b a w36 hall ⟨gb452, gb453, gb454, gb455, m14_, m15_, m16_, m17_, ha, Q_HB, Q_NB453_452, Q_NB452_453, Q_NB454_452, Q_NB452_454, Q_NB455_452, Q_NB452_455, Q_NB454_453, Q_NB453_454, Q_NB455_453, Q_NB453_455, Q_NB455_454, Q_NB454_455, Q_BK452, Q_GW452, Q_GE452, Q_BK453, Q_GW453, Q_GE453, Q_BK454, Q_GW454, Q_GE454, Q_BK455, Q_GW455, Q_GE455, Q_BK452_e18, Q_BK453_e19, Q_BK454_e20, Q_BK455_e21, Q_X14_, Q_X15_, Q_X16_, Q_X17_⟩
     clear HB
     have hb2_ := hall 2 (by kernel_rfl)
     have hb3_ := hall 3 (by kernel_rfl)
     have hb6_ := hall 6 (by kernel_rfl)
     have hb9_ := hall 9 (by kernel_rfl)
     have hb10_ := hall 10 (by kernel_rfl)
     have hb13_ := hall 13 (by kernel_rfl)
     have hb14_ := hall 14 (by kernel_rfl)
     have hb15_ := hall 15 (by kernel_rfl)
     have hb16_ := hall 16 (by kernel_rfl)
     have hb17_ := hall 17 (by kernel_rfl)
     have hb18_ := hall 18 (by kernel_rfl)
     have hb19_ := hall 19 (by kernel_rfl)
     have hb20_ := hall 20 (by kernel_rfl)
     have hb21_ := hall 21 (by kernel_rfl)
     subst ha
     obtain rfl := Q_X14_ hb14_
     obtain rfl := Q_X15_ hb15_
     obtain rfl := Q_X16_ hb16_
     obtain rfl := Q_X17_ hb17_
     simp only [putSel, hb2_, hb3_, hb6_, hb9_, hb10_, hb13_, hb14_, hb15_, hb16_, hb17_, hb18_, hb19_, hb20_, hb21_, if_true, Act.put, List.setIfInBounds_toArray, List.set_cons_zero, List.set_cons_succ]
     have HB := bA Q_HB
     clear Q_HB
     have NB453_452 := bA (Q_NB453_452 hb14_ hb15_)
     clear Q_NB453_452
     have NB452_453 := bA (Q_NB452_453 hb14_ hb15_)
     clear Q_NB452_453
     have NB454_452 := bA (Q_NB454_452 hb14_ hb16_)
     clear Q_NB454_452
     have NB452_454 := bA (Q_NB452_454 hb14_ hb16_)
     clear Q_NB452_454
     have NB455_452 := bA (Q_NB455_452 hb14_ hb17_)
     clear Q_NB455_452
     have NB452_455 := bA (Q_NB452_455 hb14_ hb17_)
     clear Q_NB452_455
     have NB454_453 := bA (Q_NB454_453 hb15_ hb16_)
     clear Q_NB454_453
     have NB453_454 := bA (Q_NB453_454 hb15_ hb16_)
     clear Q_NB453_454
     have NB455_453 := bA (Q_NB455_453 hb15_ hb17_)
     clear Q_NB455_453
     have NB453_455 := bA (Q_NB453_455 hb15_ hb17_)
     clear Q_NB453_455
     have NB455_454 := bA (Q_NB455_454 hb16_ hb17_)
     clear Q_NB455_454
     have NB454_455 := bA (Q_NB454_455 hb16_ hb17_)
     clear Q_NB454_455
     clear Q_BK452
     have GW452 := bA (Q_GW452 hb14_)
     clear Q_GW452
     have GE452 := bA (Q_GE452 hb14_)
     clear Q_GE452
     clear Q_BK453
     have GW453 := bA (Q_GW453 hb15_)
     clear Q_GW453
     have GE453 := bA (Q_GE453 hb15_)
     clear Q_GE453
     clear Q_BK454
     have GW454 := bA (Q_GW454 hb16_)
     clear Q_GW454
     have GE454 := bA (Q_GE454 hb16_)
     clear Q_GE454
     clear Q_BK455
     have GW455 := bA (Q_GW455 hb17_)
     clear Q_GW455
     have GE455 := bA (Q_GE455 hb17_)
     clear Q_GE455
     have BK452 := bA (Q_BK452_e18 hb18_)
     clear Q_BK452_e18
     have BK453 := bA (Q_BK453_e19 hb19_)
     clear Q_BK453_e19
     have BK454 := bA (Q_BK454_e20 hb20_)
     clear Q_BK454_e20
     have BK455 := bA (Q_BK455_e21 hb21_)
     clear Q_BK455_e21
     clear hall hb2_ hb3_ hb6_ hb9_ hb10_ hb13_ hb14_ hb15_ hb16_ hb17_ hb18_ hb19_ hb20_ hb21_
     go_upto_region 16 with (fail)
     go_cut [56] (fun v56 wc => ∃ (kq : Nat) (x56_19 : Bool), v56 = .bool x56_19 ∧ Aside0 (apogeeref11_Simple.j4 kq l0 (l0.length : Int) x5_3 x6_4 x56_19 ((rd_T41 l0 x5_3).f0) ((rd_T41 l0 x5_3).f1) t447 t448 ((rd_T41 l0 x6_4).f0) ((rd_T41 l0 x6_4).f1) t450 t451 = some r) ∧ Aside0 (kq ≤ k4) ∧ Aside0 (wc.heap[gb452]? = some (.cells #[.int .i64 ((rd_T41 l0 x5_3).f0), .int .i64 ((rd_T41 l0 x5_3).f1)] 41 (0, 0))) ∧ Aside0 (wc.heap[gb453]? = some (.cells #[.int .i64 t447, .int .i64 t448] 41 (0, 0))) ∧ Aside0 (wc.heap[gb454]? = some (.cells #[.int .i64 ((rd_T41 l0 x6_4).f0), .int .i64 ((rd_T41 l0 x6_4).f1)] 41 (0, 0))) ∧ Aside0 (wc.heap[gb455]? = some (.cells #[.int .i64 t450, .int .i64 t451] 41 (0, 0))) ∧ Aside0 (Below w.heap.size w wc))
     case first =>
      have H := HC20.out
      clear HC20
      have H' := bA H
      clear H
      have hnb37 := NB452_453.out
      have hnc37 := NB453_452.out
      have hnb38 := NB452_454.out
      have hnc38 := NB454_452.out
      have hnb39 := NB452_455.out
      have hnc39 := NB455_452.out
      obtain ⟨hcz40_0, hcz40_1, hfz40_0, hfz40_1⟩ := bc2 BK452
      have hnb41 := NB454_453.out
      have hnc41 := NB453_454.out
      have hnb42 := NB454_455.out
      have hnc42 := NB455_454.out
      obtain ⟨hcz43_0, hcz43_1, hfz43_0, hfz43_1⟩ := bc2 BK454
      go_wp2
      go_meet
      case rel => exact ⟨_, ((((rd_T41 l0 x5_3).f0) == ((rd_T41 l0 x6_4).f0) && (((rd_T41 l0 x5_3).f1) == ((rd_T41 l0 x6_4).f1)))), bs, H', ⟨by have := HJ1.out; have := HK2.out; have := HK3.out; have := HK4.out; first | omega | exact Nat.le_refl _⟩, ⟨by (with_reducible repeat (first | refine blk_drewN ?_ _ | refine blk_drew ?_ | refine blk_alloc ?_ _)); exact BK452.out⟩, ⟨by (with_reducible repeat (first | refine blk_drewN ?_ _ | refine blk_drew ?_ | refine blk_alloc ?_ _)); exact BK453.out⟩, ⟨by (with_reducible repeat (first | refine blk_drewN ?_ _ | refine blk_drew ?_ | refine blk_alloc ?_ _)); exact BK454.out⟩, ⟨by (with_reducible repeat (first | refine blk_drewN ?_ _ | refine blk_drew ?_ | refine blk_alloc ?_ _)); exact BK455.out⟩, ⟨bX⟩⟩
     clear HC20
     try clear p2
     try clear c3
     try clear c4
     try clear c6
     try clear c37
     try clear c38
     try clear c39
     try clear c41
     try clear c42
     try clear hcz40_0
     try clear hcz40_1
     try clear hcz43_0
     try clear hcz43_1
     try clear hfz40_0
     try clear hfz40_1
     try clear hfz43_0
     try clear hfz43_1
     obtain ⟨kq, x56_19, rfl, HA, HJ19, BK452, BK453, BK454, BK455, HB⟩ := hcut
     cases kq with
     | zero => exact absurd HA.out (by simp [apogeeref11_Simple.j4])
     | succ kj19 =>
      have H := HA.out
      clear HA
      simp only [apogeeref11_Simple.j4] at H
      by_cases c44 : x56_19 = true
      ·subst c44
       rw [if_pos rfl] at H
       obtain rfl := Option.some.inj H
       go_wp2
       go_ret
       exact bF
      replace c44 := Bool.eq_false_iff.mpr c44
      subst c44
      rw [if_neg bn] at H
      by_cases c45 : x6_4 = (wrap64 (x5_3 + 1))
      ·rw [if_pos c45] at H
       have c45b0 : (x6_4 == (wrap64 (x5_3 + 1))) = true := beq_iff_eq.mpr c45
       have c45b1 : (x6_4 != (wrap64 (x5_3 + 1))) = false := bne_eq_false_iff_eq.mpr c45
       clear c45
       replace H := Option.bind_eq_some_iff.mp H
       obtain ⟨t456, A460, H⟩ := H
       have A46 := bA A460
       clear A460
       by_cases c47 : t456 = true
       subst c47
       rw [if_pos rfl] at H
       obtain rfl := Option.some.inj H
       have hnb48 := NB455_452.out
       have hnc48 := NB452_455.out
       have hnb49 := NB455_453.out
       have hnc49 := NB453_455.out
       have hnb50 := NB455_454.out
       have hnc50 := NB454_455.out
       obtain ⟨hcz51_0, hcz51_1, hfz51_0, hfz51_1⟩ := bc2 BK455
       have hnb52 := NB452_453.out
       have hnc52 := NB453_452.out
       have hnb53 := NB452_454.out
       have hnc53 := NB454_452.out
       obtain ⟨hcz54_0, hcz54_1, hfz54_0, hfz54_1⟩ := bc2 BK452
       have hnb55 := NB453_454.out
       have hnc55 := NB454_453.out
       obtain ⟨hcz56_0, hcz56_1, hfz56_0, hfz56_1⟩ := bc2 BK453
       rotate_left
       replace c47 := Bool.eq_false_iff.mpr c47
       subst c47
       rw [if_neg bn] at H
       replace H := Option.bind_eq_some_iff.mp H
       obtain ⟨t457, A580, H⟩ := H
       have A58 := bA A580
       clear A580
       by_cases c59 : t457 = true
       subst c59
       rw [if_pos rfl] at H
       obtain rfl := Option.some.inj H
       have hnb60 := NB455_452.out
       have hnc60 := NB452_455.out
       have hnb61 := NB455_453.out
       have hnc61 := NB453_455.out
       have hnb62 := NB455_454.out
       have hnc62 := NB454_455.out
       obtain ⟨hcz63_0, hcz63_1, hfz63_0, hfz63_1⟩ := bc2 BK455
       have hnb64 := NB452_453.out
       have hnc64 := NB453_452.out
       have hnb65 := NB452_454.out
       have hnc65 := NB454_452.out
       obtain ⟨hcz66_0, hcz66_1, hfz66_0, hfz66_1⟩ := bc2 BK452
       have hnb67 := NB453_454.out
       have hnc67 := NB454_453.out
       obtain ⟨hcz68_0, hcz68_1, hfz68_0, hfz68_1⟩ := bc2 BK453
       rotate_left
       replace c59 := Bool.eq_false_iff.mpr c59
       subst c59
       rw [if_neg bn] at H
       have H' := bA H
       clear H
       have hnb74 := NB455_452.out
       have hnc74 := NB452_455.out
       have hnb75 := NB455_453.out
       have hnc75 := NB453_455.out
       have hnb76 := NB455_454.out
       have hnc76 := NB454_455.out
       obtain ⟨hcz77_0, hcz77_1, hfz77_0, hfz77_1⟩ := bc2 BK455
       have hnb78 := NB452_453.out
       have hnc78 := NB453_452.out
       have hnb79 := NB452_454.out
       have hnc79 := NB454_452.out
       obtain ⟨hcz80_0, hcz80_1, hfz80_0, hfz80_1⟩ := bc2 BK452
       have hnb81 := NB453_454.out
       have hnc81 := NB454_453.out
       obtain ⟨hcz82_0, hcz82_1, hfz82_0, hfz82_1⟩ := bc2 BK453
       rotate_left
       all_goals go_wp2_with (first | ((first | ((with_reducible refine gate_callee (f := 70) rfl ?_); refine bC (some 68) Try.func70 #[.agg #[.int .i64 t450, .int .i64 t451], .agg #[.int .i64 ((rd_T41 l0 x5_3).f0), .int .i64 ((rd_T41 l0 x5_3).f1)], .agg #[.int .i64 t447, .int .i64 t448]] ?_) | go_at_call 70); (with_reducible refine (apogeeref10_On.calls kj19 t450 t451 ((rd_T41 l0 x5_3).f0) ((rd_T41 l0 x5_3).f1) t447 t448 true _ A46.out).mono ?_); rintro e wz0 ⟨rfl, hb⟩; (first | refine ⟨_, rfl, ?_⟩ | skip); replace BK452 := bA (bB BK452 hb); replace BK453 := bA (bB BK453 hb); replace BK454 := bA (bB BK454 hb); replace BK455 := bA (bB BK455 hb); replace HB := bA (bS hb); (try clear hb)) | ((first | ((with_reducible refine gate_callee (f := 70) rfl ?_); refine bC (some 68) Try.func70 #[.agg #[.int .i64 t450, .int .i64 t451], .agg #[.int .i64 ((rd_T41 l0 x5_3).f0), .int .i64 ((rd_T41 l0 x5_3).f1)], .agg #[.int .i64 t447, .int .i64 t448]] ?_) | go_at_call 70); (with_reducible refine (apogeeref10_On.calls kj19 t450 t451 ((rd_T41 l0 x5_3).f0) ((rd_T41 l0 x5_3).f1) t447 t448 false _ A46.out).mono ?_); rintro e wz0 ⟨rfl, hb⟩; (first | refine ⟨_, rfl, ?_⟩ | skip); replace BK452 := bA (bB BK452 hb); replace BK453 := bA (bB BK453 hb); replace BK454 := bA (bB BK454 hb); replace BK455 := bA (bB BK455 hb); replace HB := bA (bS hb); (try clear hb); obtain ⟨hz1, hz2, hz3, hz4⟩ := bc2 BK452; obtain ⟨hz5, hz6, hz7, hz8⟩ := bc2 BK454; obtain ⟨hz9, hz10, hz11, hz12⟩ := bc2 BK455) | (go_at_call 70; (with_reducible refine (apogeeref10_On.calls kj19 ((rd_T41 l0 x5_3).f0) ((rd_T41 l0 x5_3).f1) ((rd_T41 l0 x6_4).f0) ((rd_T41 l0 x6_4).f1) t450 t451 true _ A58.out).mono ?_); rintro e wz1 ⟨rfl, hb⟩; replace BK452 := bA (bB BK452 hb); replace BK453 := bA (bB BK453 hb); replace BK454 := bA (bB BK454 hb); replace BK455 := bA (bB BK455 hb); replace HB := bA (bS hb); (try clear hb)) | (go_at_call 70; (with_reducible refine (apogeeref10_On.calls kj19 ((rd_T41 l0 x5_3).f0) ((rd_T41 l0 x5_3).f1) ((rd_T41 l0 x6_4).f0) ((rd_T41 l0 x6_4).f1) t450 t451 false _ A58.out).mono ?_); rintro e wz1 ⟨rfl, hb⟩; replace BK452 := bA (bB BK452 hb); replace BK453 := bA (bB BK453 hb); replace BK454 := bA (bB BK454 hb); replace BK455 := bA (bB BK455 hb); replace HB := bA (bS hb); (try clear hb)))
       ·go_ret
        exact bF
       ·go_ret
        exact bF
       go_roundg kj19
       case measure => have := HJ1.out; have := HK2.out; have := HK3.out; have := HK4.out; have := HJ19.out; omega
       case rel => exact ⟨(wrap64 (x6_4 + 1)), bs, H', ⟨by have := HJ1.out; have := HK2.out; have := HK3.out; have := HK4.out; have := HJ19.out; omega⟩, ⟨bX⟩⟩
      rw [if_neg c45] at H
      have c45b0 : (x6_4 == (wrap64 (x5_3 + 1))) = false := beq_eq_false_iff_ne.mpr c45
      have c45b1 : (x6_4 != (wrap64 (x5_3 + 1))) = true := bne_iff_ne.mpr c45
      have HC88 := bA H
      clear H
      go_upto_region 21 with (fail)
      go_cut [75] (fun v75 wc => ∃ (kq : Nat) (x75_87 : Bool), v75 = .bool x75_87 ∧ Aside0 (apogeeref11_Simple.j5 kq l0 (l0.length : Int) x5_3 x6_4 x75_87 ((rd_T41 l0 x5_3).f0) ((rd_T41 l0 x5_3).f1) t447 t448 ((rd_T41 l0 x6_4).f0) ((rd_T41 l0 x6_4).f1) t450 t451 = some r) ∧ Aside0 (kq ≤ kj19) ∧ Aside0 (wc.heap[gb452]? = some (.cells #[.int .i64 ((rd_T41 l0 x5_3).f0), .int .i64 ((rd_T41 l0 x5_3).f1)] 41 (0, 0))) ∧ Aside0 (wc.heap[gb453]? = some (.cells #[.int .i64 t447, .int .i64 t448] 41 (0, 0))) ∧ Aside0 (wc.heap[gb454]? = some (.cells #[.int .i64 ((rd_T41 l0 x6_4).f0), .int .i64 ((rd_T41 l0 x6_4).f1)] 41 (0, 0))) ∧ Aside0 (wc.heap[gb455]? = some (.cells #[.int .i64 t450, .int .i64 t451] 41 (0, 0))) ∧ Aside0 (Below w.heap.size w wc))
      case first =>
       have H := HC88.out
       clear HC88
       by_cases c89 : x5_3 = 0
       rw [if_pos c89] at H
       have c89b0 : (x5_3 == 0) = true := beq_iff_eq.mpr c89
       have c89b1 : (x5_3 != 0) = false := bne_eq_false_iff_eq.mpr c89
       clear c89
       (first | rw [c89b0] | (simp only [i64_w, i32_w]; rw [c89b0]) | skip)
       have H' := bA H
       clear H
       rotate_left
       rw [if_neg c89] at H
       have c89b0 : (x5_3 == 0) = false := beq_eq_false_iff_ne.mpr c89
       have c89b1 : (x5_3 != 0) = true := bne_iff_ne.mpr c89
       (first | rw [c89b0] | (simp only [i64_w, i32_w]; rw [c89b0]) | skip)
       have H' := bA H
       clear H
       rotate_left
       all_goals go_wp2
       ·go_meet
        case rel => exact ⟨_, ((x6_4 == (wrap64 ((l0.length : Int) - 1)))), bs, H', ⟨by have := HJ1.out; have := HK2.out; have := HK3.out; have := HK4.out; have := HJ19.out; first | omega | exact Nat.le_refl _⟩, ⟨by (with_reducible repeat (first | refine blk_drewN ?_ _ | refine blk_drew ?_ | refine blk_alloc ?_ _)); exact BK452.out⟩, ⟨by (with_reducible repeat (first | refine blk_drewN ?_ _ | refine blk_drew ?_ | refine blk_alloc ?_ _)); exact BK453.out⟩, ⟨by (with_reducible repeat (first | refine blk_drewN ?_ _ | refine blk_drew ?_ | refine blk_alloc ?_ _)); exact BK454.out⟩, ⟨by (with_reducible repeat (first | refine blk_drewN ?_ _ | refine blk_drew ?_ | refine blk_alloc ?_ _)); exact BK455.out⟩, ⟨bX⟩⟩
       go_meet
       case rel => exact ⟨_, (false), bs, H', ⟨by have := HJ1.out; have := HK2.out; have := HK3.out; have := HK4.out; have := HJ19.out; first | omega | exact Nat.le_refl _⟩, ⟨by (with_reducible repeat (first | refine blk_drewN ?_ _ | refine blk_drew ?_ | refine blk_alloc ?_ _)); exact BK452.out⟩, ⟨by (with_reducible repeat (first | refine blk_drewN ?_ _ | refine blk_drew ?_ | refine blk_alloc ?_ _)); exact BK453.out⟩, ⟨by (with_reducible repeat (first | refine blk_drewN ?_ _ | refine blk_drew ?_ | refine blk_alloc ?_ _)); exact BK454.out⟩, ⟨by (with_reducible repeat (first | refine blk_drewN ?_ _ | refine blk_drew ?_ | refine blk_alloc ?_ _)); exact BK455.out⟩, ⟨bX⟩⟩
      clear HC88
      try clear p2
      try clear c3
      try clear c4
      try clear c5
      try clear c6
      try clear p6
      try clear c7
      try clear c8
      try clear c37
      try clear c38
      try clear c39
      try clear c41
      try clear c42
      try clear c44
      try clear c45
      try clear c45b0
      try clear c45b1
      try clear c47
      try clear c48
      try clear c49
      try clear c50
      try clear c52
      try clear c53
      try clear c55
      try clear c59
      try clear c60
      try clear c61
      try clear c62
      try clear c64
      try clear p64
      try clear c65
      try clear c67
      try clear c70
      try clear c74
      try clear c75
      try clear c76
      try clear c78
      try clear c79
      try clear c81
      try clear c89
      try clear c89b0
      try clear c89b1
      try clear hcz40_0
      try clear hcz40_1
      try clear hcz43_0
      try clear hcz43_1
      try clear hcz51_0
      try clear hcz51_1
      try clear hcz54_0
      try clear hcz54_1
      try clear hcz56_0
      try clear hcz56_1
      try clear hcz63_0
      try clear hcz63_1
      try clear hcz66_0
      try clear hcz66_1
      try clear hcz68_0
      try clear hcz68_1
      try clear hcz70_0
      try clear hcz70_1
      try clear hcz71_0
      try clear hcz71_1
      try clear hcz72_0
      try clear hcz72_1
      try clear hcz77_0
      try clear hcz77_1
      try clear hcz80_0
      try clear hcz80_1
      try clear hcz82_0
      try clear hcz82_1
      try clear hcz84_0
      try clear hcz84_1
      try clear hcz85_0
      try clear hcz85_1
      try clear hcz86_0
      try clear hcz86_1
      try clear hfz40_0
      try clear hfz40_1
      try clear hfz43_0
      try clear hfz43_1
      try clear hfz51_0
      try clear hfz51_1
      try clear hfz54_0
      try clear hfz54_1
      try clear hfz56_0
      try clear hfz56_1
      try clear hfz63_0
      try clear hfz63_1
      try clear hfz66_0
      try clear hfz66_1
      try clear hfz68_0
      try clear hfz68_1
      try clear hfz70_0
      try clear hfz70_1
      try clear hfz71_0
      try clear hfz71_1
      try clear hfz72_0
      try clear hfz72_1
      try clear hfz77_0
      try clear hfz77_1
      try clear hfz80_0
      try clear hfz80_1
      try clear hfz82_0
      try clear hfz82_1
      try clear hfz84_0
      try clear hfz84_1
      try clear hfz85_0
      try clear hfz85_1
      try clear hfz86_0
      try clear hfz86_1
      try clear p2
      obtain ⟨kq, x75_87, rfl, HA, HJ87, BK452, BK453, BK454, BK455, HB⟩ := hcut
      cases kq with
      | zero => exact absurd HA.out (by simp [apogeeref11_Simple.j5])
      | succ kj87 =>
       have H := HA.out
       clear HA
       simp only [apogeeref11_Simple.j5] at H
       by_cases c90 : x75_87 = true
       subst c90
       rw [if_pos rfl] at H
       replace H := Option.bind_eq_some_iff.mp H
       obtain ⟨t458, A910, H⟩ := H
       have A91 := bA A910
       clear A910
       by_cases c92 : t458 = true
       subst c92
       rw [if_pos rfl] at H
       obtain rfl := Option.some.inj H
       have hnb93 := NB454_452.out
       have hnc93 := NB452_454.out
       have hnb94 := NB454_453.out
       have hnc94 := NB453_454.out
       have hnb95 := NB454_455.out
       have hnc95 := NB455_454.out
       obtain ⟨hcz96_0, hcz96_1, hfz96_0, hfz96_1⟩ := bc2 BK454
       have hnb97 := NB452_453.out
       have hnc97 := NB453_452.out
       have hnb98 := NB452_455.out
       have hnc98 := NB455_452.out
       obtain ⟨hcz99_0, hcz99_1, hfz99_0, hfz99_1⟩ := bc2 BK452
       have hnb100 := NB453_455.out
       have hnc100 := NB455_453.out
       obtain ⟨hcz101_0, hcz101_1, hfz101_0, hfz101_1⟩ := bc2 BK453
       rotate_left
       replace c92 := Bool.eq_false_iff.mpr c92
       subst c92
       rw [if_neg bn] at H
       replace H := Option.bind_eq_some_iff.mp H
       obtain ⟨t459, A1030, H⟩ := H
       have A103 := bA A1030
       clear A1030
       by_cases c104 : t459 = true
       subst c104
       rw [if_pos rfl] at H
       obtain rfl := Option.some.inj H
       have hnb105 := NB454_452.out
       have hnc105 := NB452_454.out
       have hnb106 := NB454_453.out
       have hnc106 := NB453_454.out
       have hnb107 := NB454_455.out
       have hnc107 := NB455_454.out
       obtain ⟨hcz108_0, hcz108_1, hfz108_0, hfz108_1⟩ := bc2 BK454
       have hnb109 := NB452_453.out
       have hnc109 := NB453_452.out
       have hnb110 := NB452_455.out
       have hnc110 := NB455_452.out
       obtain ⟨hcz111_0, hcz111_1, hfz111_0, hfz111_1⟩ := bc2 BK452
       have hnb112 := NB453_455.out
       have hnc112 := NB455_453.out
       obtain ⟨hcz113_0, hcz113_1, hfz113_0, hfz113_1⟩ := bc2 BK453
       rotate_left
       replace c104 := Bool.eq_false_iff.mpr c104
       subst c104
       rw [if_neg bn] at H
       have H' := bA H
       clear H
       have hnb119 := NB454_452.out
       have hnc119 := NB452_454.out
       have hnb120 := NB454_453.out
       have hnc120 := NB453_454.out
       have hnb121 := NB454_455.out
       have hnc121 := NB455_454.out
       obtain ⟨hcz122_0, hcz122_1, hfz122_0, hfz122_1⟩ := bc2 BK454
       have hnb123 := NB452_453.out
       have hnc123 := NB453_452.out
       have hnb124 := NB452_455.out
       have hnc124 := NB455_452.out
       obtain ⟨hcz125_0, hcz125_1, hfz125_0, hfz125_1⟩ := bc2 BK452
       have hnb126 := NB453_455.out
       have hnc126 := NB455_453.out
       obtain ⟨hcz127_0, hcz127_1, hfz127_0, hfz127_1⟩ := bc2 BK453
       rotate_left
       replace c90 := Bool.eq_false_iff.mpr c90
       subst c90
       rw [if_neg bn] at H
       replace H := Option.bind_eq_some_iff.mp H
       obtain ⟨t460, A1330, H⟩ := H
       have A133 := bA A1330
       clear A1330
       by_cases c134 : t460 = true
       subst c134
       rw [if_pos rfl] at H
       obtain rfl := Option.some.inj H
       have hnb135 := NB452_453.out
       have hnc135 := NB453_452.out
       have hnb136 := NB452_454.out
       have hnc136 := NB454_452.out
       have hnb137 := NB452_455.out
       have hnc137 := NB455_452.out
       obtain ⟨hcz138_0, hcz138_1, hfz138_0, hfz138_1⟩ := bc2 BK452
       have hnb139 := NB453_454.out
       have hnc139 := NB454_453.out
       have hnb140 := NB453_455.out
       have hnc140 := NB455_453.out
       obtain ⟨hcz141_0, hcz141_1, hfz141_0, hfz141_1⟩ := bc2 BK453
       have hnb142 := NB454_455.out
       have hnc142 := NB455_454.out
       obtain ⟨hcz143_0, hcz143_1, hfz143_0, hfz143_1⟩ := bc2 BK454
       obtain ⟨hcz144_0, hcz144_1, hfz144_0, hfz144_1⟩ := bc2 BK455
       rotate_left
       replace c134 := Bool.eq_false_iff.mpr c134
       subst c134
       rw [if_neg bn] at H
       have H' := bA H
       clear H
       have hnb146 := NB452_453.out
       have hnc146 := NB453_452.out
       have hnb147 := NB452_454.out
       have hnc147 := NB454_452.out
       have hnb148 := NB452_455.out
       have hnc148 := NB455_452.out
       obtain ⟨hcz149_0, hcz149_1, hfz149_0, hfz149_1⟩ := bc2 BK452
       have hnb150 := NB453_454.out
       have hnc150 := NB454_453.out
       have hnb151 := NB453_455.out
       have hnc151 := NB455_453.out
       obtain ⟨hcz152_0, hcz152_1, hfz152_0, hfz152_1⟩ := bc2 BK453
       have hnb153 := NB454_455.out
       have hnc153 := NB455_454.out
       obtain ⟨hcz154_0, hcz154_1, hfz154_0, hfz154_1⟩ := bc2 BK454
       obtain ⟨hcz155_0, hcz155_1, hfz155_0, hfz155_1⟩ := bc2 BK455
       rotate_left
       all_goals go_wp2_with (first | ((first | ((with_reducible refine gate_callee (f := 70) rfl ?_); refine bC (some 87) Try.func70 #[.agg #[.int .i64 ((rd_T41 l0 x6_4).f0), .int .i64 ((rd_T41 l0 x6_4).f1)], .agg #[.int .i64 ((rd_T41 l0 x5_3).f0), .int .i64 ((rd_T41 l0 x5_3).f1)], .agg #[.int .i64 t447, .int .i64 t448]] ?_) | go_at_call 70); (with_reducible refine (apogeeref10_On.calls kj87 ((rd_T41 l0 x6_4).f0) ((rd_T41 l0 x6_4).f1) ((rd_T41 l0 x5_3).f0) ((rd_T41 l0 x5_3).f1) t447 t448 true _ A91.out).mono ?_); rintro e wz0 ⟨rfl, hb⟩; (first | refine ⟨_, rfl, ?_⟩ | skip); replace BK452 := bA (bB BK452 hb); replace BK453 := bA (bB BK453 hb); replace BK454 := bA (bB BK454 hb); replace BK455 := bA (bB BK455 hb); replace HB := bA (bS hb); (try clear hb)) | ((first | ((with_reducible refine gate_callee (f := 70) rfl ?_); refine bC (some 87) Try.func70 #[.agg #[.int .i64 ((rd_T41 l0 x6_4).f0), .int .i64 ((rd_T41 l0 x6_4).f1)], .agg #[.int .i64 ((rd_T41 l0 x5_3).f0), .int .i64 ((rd_T41 l0 x5_3).f1)], .agg #[.int .i64 t447, .int .i64 t448]] ?_) | go_at_call 70); (with_reducible refine (apogeeref10_On.calls kj87 ((rd_T41 l0 x6_4).f0) ((rd_T41 l0 x6_4).f1) ((rd_T41 l0 x5_3).f0) ((rd_T41 l0 x5_3).f1) t447 t448 false _ A91.out).mono ?_); rintro e wz0 ⟨rfl, hb⟩; (first | refine ⟨_, rfl, ?_⟩ | skip); replace BK452 := bA (bB BK452 hb); replace BK453 := bA (bB BK453 hb); replace BK454 := bA (bB BK454 hb); replace BK455 := bA (bB BK455 hb); replace HB := bA (bS hb); (try clear hb); obtain ⟨hz1, hz2, hz3, hz4⟩ := bc2 BK453; obtain ⟨hz5, hz6, hz7, hz8⟩ := bc2 BK454; obtain ⟨hz9, hz10, hz11, hz12⟩ := bc2 BK455) | (go_at_call 70; (with_reducible refine (apogeeref10_On.calls kj87 t447 t448 ((rd_T41 l0 x6_4).f0) ((rd_T41 l0 x6_4).f1) t450 t451 true _ A103.out).mono ?_); rintro e wz1 ⟨rfl, hb⟩; replace BK452 := bA (bB BK452 hb); replace BK453 := bA (bB BK453 hb); replace BK454 := bA (bB BK454 hb); replace BK455 := bA (bB BK455 hb); replace HB := bA (bS hb); (try clear hb)) | (go_at_call 70; (with_reducible refine (apogeeref10_On.calls kj87 t447 t448 ((rd_T41 l0 x6_4).f0) ((rd_T41 l0 x6_4).f1) t450 t451 false _ A103.out).mono ?_); rintro e wz1 ⟨rfl, hb⟩; replace BK452 := bA (bB BK452 hb); replace BK453 := bA (bB BK453 hb); replace BK454 := bA (bB BK454 hb); replace BK455 := bA (bB BK455 hb); replace HB := bA (bS hb); (try clear hb)) | ((first | ((with_reducible refine gate_callee (f := 71) rfl ?_); refine bC (some 99) Try.func71 #[.agg #[.int .i64 ((rd_T41 l0 x5_3).f0), .int .i64 ((rd_T41 l0 x5_3).f1)], .agg #[.int .i64 t447, .int .i64 t448], .agg #[.int .i64 ((rd_T41 l0 x6_4).f0), .int .i64 ((rd_T41 l0 x6_4).f1)], .agg #[.int .i64 t450, .int .i64 t451]] ?_) | go_at_call 71); (with_reducible refine (apogeeref10_Meet.calls kj87 ((rd_T41 l0 x5_3).f0) ((rd_T41 l0 x5_3).f1) t447 t448 ((rd_T41 l0 x6_4).f0) ((rd_T41 l0 x6_4).f1) t450 t451 true _ A133.out).mono ?_); rintro e wz0 ⟨rfl, hb⟩; (first | refine ⟨_, rfl, ?_⟩ | skip); replace BK452 := bA (bB BK452 hb); replace BK453 := bA (bB BK453 hb); replace BK454 := bA (bB BK454 hb); replace BK455 := bA (bB BK455 hb); replace HB := bA (bS hb); (try clear hb)) | ((first | ((with_reducible refine gate_callee (f := 71) rfl ?_); refine bC (some 99) Try.func71 #[.agg #[.int .i64 ((rd_T41 l0 x5_3).f0), .int .i64 ((rd_T41 l0 x5_3).f1)], .agg #[.int .i64 t447, .int .i64 t448], .agg #[.int .i64 ((rd_T41 l0 x6_4).f0), .int .i64 ((rd_T41 l0 x6_4).f1)], .agg #[.int .i64 t450, .int .i64 t451]] ?_) | go_at_call 71); (with_reducible refine (apogeeref10_Meet.calls kj87 ((rd_T41 l0 x5_3).f0) ((rd_T41 l0 x5_3).f1) t447 t448 ((rd_T41 l0 x6_4).f0) ((rd_T41 l0 x6_4).f1) t450 t451 false _ A133.out).mono ?_); rintro e wz0 ⟨rfl, hb⟩; (first | refine ⟨_, rfl, ?_⟩ | skip); replace BK452 := bA (bB BK452 hb); replace BK453 := bA (bB BK453 hb); replace BK454 := bA (bB BK454 hb); replace BK455 := bA (bB BK455 hb); replace HB := bA (bS hb); (try clear hb)))
       ·go_ret
        exact bF
       ·go_ret
        exact bF
       ·go_roundg kj87
        case measure => have := HJ1.out; have := HK2.out; have := HK3.out; have := HK4.out; have := HJ19.out; have := HJ87.out; omega
        case rel => exact ⟨(wrap64 (x6_4 + 1)), bs, H', ⟨by have := HJ1.out; have := HK2.out; have := HK3.out; have := HK4.out; have := HJ19.out; have := HJ87.out; omega⟩, ⟨bX⟩⟩
       ·go_ret
        exact bF
       go_roundg kj87
       case measure => have := HJ1.out; have := HK2.out; have := HK3.out; have := HK4.out; have := HJ19.out; have := HJ87.out; omega
       case rel => exact ⟨(wrap64 (x6_4 + 1)), bs, H', ⟨by have := HJ1.out; have := HK2.out; have := HK3.out; have := HK4.out; have := HJ19.out; have := HJ87.out; omega⟩, ⟨bX⟩⟩
end Go.Proofs.Ytjmibjmlihmglaa.G
