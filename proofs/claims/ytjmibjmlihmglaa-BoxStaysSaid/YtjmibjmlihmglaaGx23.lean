-- Written by a program of this session out of the translation; Lean checks it.
import Derived.Test.YtjmibjmlihmglaaGx0
import Derived.Test.YtjmibjmlihmglaaGx22
namespace Go.Proofs.Ytjmibjmlihmglaa.G
open Go.RowKit Go.Proofs.YtjmibjmlihmglaaW.PrintWords Go.Proofs.YtjmibjmlihmglaaW.PrintLast Go.Proofs.YtjmibjmlihmglaaW.PrintMore
attribute [local go_sem] max2_int min2_int max_two min_two max_three min_three max_four min_four   -- for this text's walks alone
set_option linter.unusedVariables false
set_option linter.unusedSimpArgs false

/-! ### apogeeref11_Right: function 28 -/
mutual
def apogeeref11_Right.l0 : Nat → List (S41) → Int → Option (Bool)
 | 0, _, _ => none
 | k + 1, x0, x3 => if x3 < (x0.length : Int) then (apogeeref11_Right.j1 k x0 x3 (decide ((x0.length : Int) ≤ 8))) else (apogeeref11_Right.j1 k x0 x3 false)
def apogeeref11_Right.j1 : Nat → List (S41) → Int → Bool → Option (Bool)
 | 0, _, _, _ => none
 | k + 1, x0, x3, x12 => if x12 = true then (if 0 ≤ x3 then (if x3 < (x0.length : Int) then (if ((rd_T41 x0 x3).f0) < (-1073741824) then (some false) else (if ((rd_T41 x0 x3).f0) > 1073741824 then (some false) else (if ((rd_T41 x0 x3).f1) < (-1073741824) then (some false) else (if ((rd_T41 x0 x3).f1) > 1073741824 then (some false) else (apogeeref11_Right.l0 k x0 (wrap64 (x3 + 1))))))) else (none)) else (none)) else ((apogeeref11_Simple.f k x0).bind fun t559 => (some t559))
end
def apogeeref11_Right.f (k : Nat) (l0 : List (S41)) : Option (Bool) := apogeeref11_Right.l0 k l0 0
theorem apogeeref11_Right.mono_l : ∀ k, (∀ y0 y1, LeO (apogeeref11_Right.l0 k y0 y1) (apogeeref11_Right.l0 (k + 1) y0 y1)) ∧ (∀ y0 y1 y2, LeO (apogeeref11_Right.j1 k y0 y1 y2) (apogeeref11_Right.j1 (k + 1) y0 y1 y2))
 | 0 => ⟨fun _ _ r h => by simp [apogeeref11_Right.l0] at h, fun _ _ _ r h => by simp [apogeeref11_Right.j1] at h⟩
 | k + 1 => by
  obtain ⟨ih0, ih1⟩ := apogeeref11_Right.mono_l k
  refine ⟨?_, ?_⟩
  ·intro y0 y1
   unfold apogeeref11_Right.l0
   repeat' first
   | (with_reducible exact ih0 _ _)
   | (with_reducible exact ih1 _ _ _)
   | (with_reducible exact apogeeref11_Simple.mono _ _)
   | (with_reducible exact LeO.refl _)
   | (with_reducible exact LeO.none _)
   | (with_reducible refine LeO.ite ?_ ?_)
   | (with_reducible refine LeO.bind ?_ (fun _ => ?_))
   | exact ih0 _ _
   | exact ih1 _ _ _
   | exact apogeeref11_Simple.mono _ _
   | exact LeO.none _
   | refine LeO.ite ?_ ?_
   | refine LeO.bind ?_ (fun _ => ?_)
  ·intro y0 y1 y2
   unfold apogeeref11_Right.j1
   repeat' first
   | (with_reducible exact ih0 _ _)
   | (with_reducible exact ih1 _ _ _)
   | (with_reducible exact apogeeref11_Simple.mono _ _)
   | (with_reducible exact LeO.refl _)
   | (with_reducible exact LeO.none _)
   | (with_reducible refine LeO.ite ?_ ?_)
   | (with_reducible refine LeO.bind ?_ (fun _ => ?_))
   | exact ih0 _ _
   | exact ih1 _ _ _
   | exact apogeeref11_Simple.mono _ _
   | exact LeO.none _
   | refine LeO.ite ?_ ?_
   | refine LeO.bind ?_ (fun _ => ?_)
theorem apogeeref11_Right.mono : ∀ a0 k, LeO (apogeeref11_Right.f k a0) (apogeeref11_Right.f (k + 1) a0) := by
 intro a0 k
 obtain ⟨ih0, ih1⟩ := apogeeref11_Right.mono_l k
 unfold apogeeref11_Right.f
 repeat' first
   | (with_reducible exact ih0 _ _)
   | (with_reducible exact ih1 _ _ _)
   | (with_reducible exact apogeeref11_Simple.mono _ _)
   | (with_reducible exact LeO.refl _)
   | (with_reducible exact LeO.none _)
   | (with_reducible refine LeO.ite ?_ ?_)
   | (with_reducible refine LeO.bind ?_ (fun _ => ?_))
   | exact ih0 _ _
   | exact ih1 _ _ _
   | exact apogeeref11_Simple.mono _ _
   | exact LeO.none _
   | refine LeO.ite ?_ ?_
   | refine LeO.bind ?_ (fun _ => ?_)
set_option maxHeartbeats 8000000 in
set_option maxRecDepth 100000 in
theorem apogeeref11_Right.calls (k : Nat) (A0 : Option Addr) (c0 : Nat) (l0 : List (S41)) (r : Bool) (w : World) (hr0 : Kd.C k41 w A0 l0.length l0) (hc0 : l0.length ≤ c0) (h : apogeeref11_Right.f k l0 = some r) :
  Calls Try.prog 28 #[.slice A0 l0.length c0] w fun e w' => e = .returned (.bool r) ∧ Below w.heap.size w w' := by
 have HR0 := bA hr0
 have HC0 := bA hc0
 clear hr0 hc0
 have HB := bA (Below.refl w.heap.size w)
 have H : (apogeeref11_Right.l0 k l0 0) = some r := h
 clear h
 have H' := bA H
 clear H
 go_enter Try.func28, Try.ntmps28
 go_wp2
 go_loopg [3] k (fun kq v3 w' => ∃ (x3_1 : Int), v3 = .int .i64 x3_1 ∧ Aside0 (apogeeref11_Right.l0 kq l0 x3_1 = some r) ∧ Aside0 (kq ≤ k) ∧ Aside0 (Below w.heap.size w w'))
 case atStart => exact ⟨(0), bs, H', ⟨Nat.le_refl _⟩, ⟨bX⟩⟩
 clear H'
 obtain ⟨x3_1, rfl, HA, HK1, HB⟩ := hrel
 cases gk with
 | zero => exact absurd HA.out (by simp [apogeeref11_Right.l0])
 | succ k1 =>
  have H := HA.out
  clear HA
  simp only [apogeeref11_Right.l0] at H
  have HC2 := bA H
  clear H
  go_upto_region 2 with (fail)
  go_cut [12] (fun v12 wc => ∃ (kq : Nat) (x12_1 : Bool), v12 = .bool x12_1 ∧ Aside0 (apogeeref11_Right.j1 kq l0 x3_1 x12_1 = some r) ∧ Aside0 (kq ≤ k1) ∧ Aside0 (Below w.heap.size w wc))
  case first =>
   have H := HC2.out
   clear HC2
   by_cases c3 : x3_1 < (l0.length : Int)
   rw [if_pos c3] at H
   have c3b0 : decide (x3_1 < (l0.length : Int)) = true := decide_eq_true c3
   clear c3
   (first | rw [c3b0] | (simp only [i64_w, i32_w]; rw [c3b0]) | skip)
   have H' := bA H
   clear H
   rotate_left
   rw [if_neg c3] at H
   have c3b0 : decide (x3_1 < (l0.length : Int)) = false := decide_eq_false c3
   clear c3
   (first | rw [c3b0] | (simp only [i64_w, i32_w]; rw [c3b0]) | skip)
   have H' := bA H
   clear H
   rotate_left
   all_goals go_wp2
   ·go_meet
    case rel => exact ⟨_, (decide ((l0.length : Int) ≤ 8)), bs, H', ⟨by have := HK1.out; first | omega | exact Nat.le_refl _⟩, ⟨bX⟩⟩
   go_meet
   case rel => exact ⟨_, (false), bs, H', ⟨by have := HK1.out; first | omega | exact Nat.le_refl _⟩, ⟨bX⟩⟩
  clear HC2
  try clear c2
  try clear p2
  try clear c3
  try clear c3b0
  obtain ⟨kq, x12_1, rfl, HA, HJ1, HB⟩ := hcut
  cases kq with
  | zero => exact absurd HA.out (by simp [apogeeref11_Right.j1])
  | succ kj1 =>
   have H := HA.out
   clear HA
   simp only [apogeeref11_Right.j1] at H
   by_cases c4 : x12_1 = true
   subst c4
   rw [if_pos rfl] at H
   by_cases c5 : 0 ≤ x3_1
   rw [if_pos c5] at H
   have c5b0 : decide (0 ≤ x3_1) = true := decide_eq_true c5
   clear c5
   by_cases c6 : x3_1 < (l0.length : Int)
   rw [if_pos c6] at H
   have c6b0 : decide (x3_1 < (l0.length : Int)) = true := decide_eq_true c6
   clear c6
   by_cases c7 : ((rd_T41 l0 x3_1).f0) < (-1073741824)
   rw [if_pos c7] at H
   have c7b0 : decide (((rd_T41 l0 x3_1).f0) < (-1073741824)) = true := decide_eq_true c7
   clear c7
   obtain rfl := Option.some.inj H
   have p555 : 0 ≤ (x3_1 : Int) := bo
   have q555 : x3_1 < (l0.length : Int) := bo
   obtain ⟨ad555, e555, hx555_0, hx555_1⟩ := at_T41 HR0.out x3_1 p555 q555
   cases e555
   replace hx555_0 := bK hx555_0
   replace hx555_1 := bK hx555_1
   replace p555 := eq_true p555
   replace q555 := eq_true q555
   rotate_left
   rw [if_neg c7] at H
   have c7b0 : decide (((rd_T41 l0 x3_1).f0) < (-1073741824)) = false := decide_eq_false c7
   clear c7
   by_cases c8 : ((rd_T41 l0 x3_1).f0) > 1073741824
   rw [if_pos c8] at H
   have c8b0 : decide (1073741824 < ((rd_T41 l0 x3_1).f0)) = true := decide_eq_true c8
   clear c8
   obtain rfl := Option.some.inj H
   have p555 : 0 ≤ (x3_1 : Int) := bo
   have q555 : x3_1 < (l0.length : Int) := bo
   obtain ⟨ad555, e555, hx555_0, hx555_1⟩ := at_T41 HR0.out x3_1 p555 q555
   cases e555
   replace hx555_0 := bK hx555_0
   replace hx555_1 := bK hx555_1
   replace p555 := eq_true p555
   replace q555 := eq_true q555
   have p556 : 0 ≤ (x3_1 : Int) := bo
   have q556 : x3_1 < (l0.length : Int) := bo
   obtain ⟨ad556, e556, hx556_0, hx556_1⟩ := at_T41 HR0.out x3_1 p556 q556
   obtain rfl : ad555 = ad556 := (by injection e556)
   replace hx556_0 := bK hx556_0
   replace hx556_1 := bK hx556_1
   replace p556 := eq_true p556
   replace q556 := eq_true q556
   rotate_left
   rw [if_neg c8] at H
   have c8b0 : decide (1073741824 < ((rd_T41 l0 x3_1).f0)) = false := decide_eq_false c8
   clear c8
   by_cases c9 : ((rd_T41 l0 x3_1).f1) < (-1073741824)
   rw [if_pos c9] at H
   have c9b0 : decide (((rd_T41 l0 x3_1).f1) < (-1073741824)) = true := decide_eq_true c9
   clear c9
   obtain rfl := Option.some.inj H
   have p555 : 0 ≤ (x3_1 : Int) := bo
   have q555 : x3_1 < (l0.length : Int) := bo
   obtain ⟨ad555, e555, hx555_0, hx555_1⟩ := at_T41 HR0.out x3_1 p555 q555
   cases e555
   replace hx555_0 := bK hx555_0
   replace hx555_1 := bK hx555_1
   replace p555 := eq_true p555
   replace q555 := eq_true q555
   have p556 : 0 ≤ (x3_1 : Int) := bo
   have q556 : x3_1 < (l0.length : Int) := bo
   obtain ⟨ad556, e556, hx556_0, hx556_1⟩ := at_T41 HR0.out x3_1 p556 q556
   obtain rfl : ad555 = ad556 := (by injection e556)
   replace hx556_0 := bK hx556_0
   replace hx556_1 := bK hx556_1
   replace p556 := eq_true p556
   replace q556 := eq_true q556
   have p557 : 0 ≤ (x3_1 : Int) := bo
   have q557 : x3_1 < (l0.length : Int) := bo
   obtain ⟨ad557, e557, hx557_0, hx557_1⟩ := at_T41 HR0.out x3_1 p557 q557
   obtain rfl : ad555 = ad557 := (by injection e557)
   replace hx557_0 := bK hx557_0
   replace hx557_1 := bK hx557_1
   replace p557 := eq_true p557
   replace q557 := eq_true q557
   rotate_left
   rw [if_neg c9] at H
   have c9b0 : decide (((rd_T41 l0 x3_1).f1) < (-1073741824)) = false := decide_eq_false c9
   clear c9
   by_cases c10 : ((rd_T41 l0 x3_1).f1) > 1073741824
   rw [if_pos c10] at H
   have c10b0 : decide (1073741824 < ((rd_T41 l0 x3_1).f1)) = true := decide_eq_true c10
   clear c10
   obtain rfl := Option.some.inj H
   have p555 : 0 ≤ (x3_1 : Int) := bo
   have q555 : x3_1 < (l0.length : Int) := bo
   obtain ⟨ad555, e555, hx555_0, hx555_1⟩ := at_T41 HR0.out x3_1 p555 q555
   cases e555
   replace hx555_0 := bK hx555_0
   replace hx555_1 := bK hx555_1
   replace p555 := eq_true p555
   replace q555 := eq_true q555
   have p556 : 0 ≤ (x3_1 : Int) := bo
   have q556 : x3_1 < (l0.length : Int) := bo
   obtain ⟨ad556, e556, hx556_0, hx556_1⟩ := at_T41 HR0.out x3_1 p556 q556
   obtain rfl : ad555 = ad556 := (by injection e556)
   replace hx556_0 := bK hx556_0
   replace hx556_1 := bK hx556_1
   replace p556 := eq_true p556
   replace q556 := eq_true q556
   have p557 : 0 ≤ (x3_1 : Int) := bo
   have q557 : x3_1 < (l0.length : Int) := bo
   obtain ⟨ad557, e557, hx557_0, hx557_1⟩ := at_T41 HR0.out x3_1 p557 q557
   obtain rfl : ad555 = ad557 := (by injection e557)
   replace hx557_0 := bK hx557_0
   replace hx557_1 := bK hx557_1
   replace p557 := eq_true p557
   replace q557 := eq_true q557
   have p558 : 0 ≤ (x3_1 : Int) := bo
   have q558 : x3_1 < (l0.length : Int) := bo
   obtain ⟨ad558, e558, hx558_0, hx558_1⟩ := at_T41 HR0.out x3_1 p558 q558
   obtain rfl : ad555 = ad558 := (by injection e558)
   replace hx558_0 := bK hx558_0
   replace hx558_1 := bK hx558_1
   replace p558 := eq_true p558
   replace q558 := eq_true q558
   rotate_left
   rw [if_neg c10] at H
   have c10b0 : decide (1073741824 < ((rd_T41 l0 x3_1).f1)) = false := decide_eq_false c10
   clear c10
   have H' := bA H
   clear H
   have p555 : 0 ≤ (x3_1 : Int) := bo
   have q555 : x3_1 < (l0.length : Int) := bo
   obtain ⟨ad555, e555, hx555_0, hx555_1⟩ := at_T41 HR0.out x3_1 p555 q555
   cases e555
   replace hx555_0 := bK hx555_0
   replace hx555_1 := bK hx555_1
   replace p555 := eq_true p555
   replace q555 := eq_true q555
   have p556 : 0 ≤ (x3_1 : Int) := bo
   have q556 : x3_1 < (l0.length : Int) := bo
   obtain ⟨ad556, e556, hx556_0, hx556_1⟩ := at_T41 HR0.out x3_1 p556 q556
   obtain rfl : ad555 = ad556 := (by injection e556)
   replace hx556_0 := bK hx556_0
   replace hx556_1 := bK hx556_1
   replace p556 := eq_true p556
   replace q556 := eq_true q556
   have p557 : 0 ≤ (x3_1 : Int) := bo
   have q557 : x3_1 < (l0.length : Int) := bo
   obtain ⟨ad557, e557, hx557_0, hx557_1⟩ := at_T41 HR0.out x3_1 p557 q557
   obtain rfl : ad555 = ad557 := (by injection e557)
   replace hx557_0 := bK hx557_0
   replace hx557_1 := bK hx557_1
   replace p557 := eq_true p557
   replace q557 := eq_true q557
   have p558 : 0 ≤ (x3_1 : Int) := bo
   have q558 : x3_1 < (l0.length : Int) := bo
   obtain ⟨ad558, e558, hx558_0, hx558_1⟩ := at_T41 HR0.out x3_1 p558 q558
   obtain rfl : ad555 = ad558 := (by injection e558)
   replace hx558_0 := bK hx558_0
   replace hx558_1 := bK hx558_1
   replace p558 := eq_true p558
   replace q558 := eq_true q558
   rotate_left
   rw [if_neg c6] at H
   exact absurd H (by simp)
   rw [if_neg c5] at H
   exact absurd H (by simp)
   replace c4 := Bool.eq_false_iff.mpr c4
   subst c4
   rw [if_neg bn] at H
   replace H := Option.bind_eq_some_iff.mp H
   obtain ⟨t559, A110, H⟩ := H
   have A11 := bA A110
   clear A110
   obtain rfl := Option.some.inj H
   rotate_left
   all_goals go_wp2_with (first | ((first | ((with_reducible refine gate_callee (f := 30) rfl ?_); refine bC (some 46) Try.func30 #[.slice A0 l0.length c0] ?_) | go_at_call 30); (with_reducible refine (apogeeref11_Simple.calls kj1 _ _ l0 t559 _ ?side1 ?side2 A11.out).mono ?_); (case side1 => exact bQ HR0); (case side2 => exact HC0.out); rintro e wz0 ⟨rfl, hb⟩; (first | refine ⟨_, rfl, ?_⟩ | skip); replace HB := bA (bS hb); (try clear hb)))
   ·go_ret
    exact bF
   ·go_ret
    exact bF
   ·go_ret
    exact bF
   ·go_ret
    exact bF
   ·go_roundg kj1
    case measure => have := HK1.out; have := HJ1.out; omega
    case rel => exact ⟨(wrap64 (x3_1 + 1)), bs, H', ⟨by have := HK1.out; have := HJ1.out; omega⟩, ⟨bX⟩⟩
   go_ret
   exact bF
end Go.Proofs.Ytjmibjmlihmglaa.G
