-- Written by a program of this session out of the translation; Lean checks it.
import Derived.Test.YtjmibjmlihmglaaGx0
import Derived.Test.YtjmibjmlihmglaaGx2
import Derived.Test.YtjmibjmlihmglaaGx10
import Derived.Test.YtjmibjmlihmglaaGx11
import Derived.Test.YtjmibjmlihmglaaGx12
import Derived.Test.YtjmibjmlihmglaaGx13
import Derived.Test.YtjmibjmlihmglaaGx14
import Derived.Test.YtjmibjmlihmglaaGx19
import Derived.Test.YtjmibjmlihmglaaGx20
import Derived.Test.YtjmibjmlihmglaaGx21
import Derived.Test.YtjmibjmlihmglaaGx24
import Derived.Test.YtjmibjmlihmglaaGx25
namespace Go.Proofs.Ytjmibjmlihmglaa.G
open Go.RowKit Go.Proofs.YtjmibjmlihmglaaW.PrintWords Go.Proofs.YtjmibjmlihmglaaW.PrintLast Go.Proofs.YtjmibjmlihmglaaW.PrintMore
attribute [local go_sem] max2_int min2_int max_two min_two max_three min_three max_four min_four   -- for this text's walks alone
set_option linter.unusedVariables false
set_option linter.unusedSimpArgs false

attribute [local go_sem high] eqA44
/-! ### apogeelaw11_PolyTells: function 7 -/
def apogeelaw11_PolyTells.j0 : Nat → List (S41) → Bool → Int → Int → Option (Bool)
 | 0, _, _, _, _ => none
 | k + 1, x0, x14, x518000, x518001 => if x14 = true then ((apogeelaw11_awake.f k).bind fun t520 => (some t520)) else ((poly_Bounds.f k x0).bind fun bt521 => ((apogeeref11_Right.f k x0).bind fun t527 => ((poly_Simple.f k x0).bind fun t528 => ((apogeeref11_Simple.f k x0).bind fun t529 => (if (t528 != t529) = true then (none) else ((poly_Right.f k x0).bind fun t530 => (if (t530 != t527) = true then (none) else ((poly_Side.f k x0 x518000 x518001).bind fun t531 => ((apogeeref11_Side.f k x0 x518000 x518001).bind fun t532 => (if t531 = t532 then ((poly_Left.f k x0).bind fun t533 => ((apogeeref11_Left.f k x0).bind fun t534 => (if (t533 != t534) = true then (none) else ((poly_Back.f k x0).bind fun t535 => ((apogeeref11_Back.f k x0).bind fun t538 => ((apogeeref10_Same.f k t535 t538).bind fun t541 => (if t541 = true then (if (bt521.2.2.2.2 != t527) = true then (none) else (if t527 = true then ((apogeeref11_Bounds.f k x0).bind fun bt542 => (some ((bt521.1 == bt542.1 && (bt521.2.1 == bt542.2.1)) && ((bt521.2.2.1 == bt542.2.2.1 && (bt521.2.2.2.1 == bt542.2.2.2)))))) else (if ((bt521.1 == 0 && (bt521.2.1 == 0)) && ((bt521.2.2.1 == 0 && (bt521.2.2.2.1 == 0)))) = true then (some true) else (none)))) else (none)))))))) else (none)))))))))))
def apogeelaw11_PolyTells.f (k : Nat) (l0 : List (S41)) (a1_0 : Int) (a1_1 : Int) : Option (Bool) := (apogeelaw11_awake.f k).bind fun t518 => (if t518 = true then ((apogeelaw11_few.f l0).bind fun t519 => (apogeelaw11_PolyTells.j0 k l0 (!t519) a1_0 a1_1)) else (apogeelaw11_PolyTells.j0 k l0 true a1_0 a1_1))
theorem apogeelaw11_PolyTells.mono_l : ∀ k, (∀ y0 y1 y2 y3, LeO (apogeelaw11_PolyTells.j0 k y0 y1 y2 y3) (apogeelaw11_PolyTells.j0 (k + 1) y0 y1 y2 y3))
 | 0 => fun _ _ _ _ r h => by simp [apogeelaw11_PolyTells.j0] at h
 | k + 1 => by
  have ih0 := apogeelaw11_PolyTells.mono_l k
  ·intro y0 y1 y2 y3
   unfold apogeelaw11_PolyTells.j0
   repeat' first
   | (with_reducible exact ih0 _ _ _ _)
   | (with_reducible exact apogeelaw11_awake.mono _)
   | (with_reducible exact apogeeref10_Same.mono _ _ _)
   | (with_reducible exact apogeeref11_Back.mono _ _)
   | (with_reducible exact apogeeref11_Bounds.mono _ _)
   | (with_reducible exact apogeeref11_Left.mono _ _)
   | (with_reducible exact apogeeref11_Right.mono _ _)
   | (with_reducible exact apogeeref11_Side.mono _ _ _ _)
   | (with_reducible exact apogeeref11_Simple.mono _ _)
   | (with_reducible exact poly_Back.mono _ _)
   | (with_reducible exact poly_Bounds.mono _ _)
   | (with_reducible exact poly_Left.mono _ _)
   | (with_reducible exact poly_Right.mono _ _)
   | (with_reducible exact poly_Side.mono _ _ _ _)
   | (with_reducible exact poly_Simple.mono _ _)
   | (with_reducible exact LeO.refl _)
   | (with_reducible exact LeO.none _)
   | (with_reducible refine LeO.ite ?_ ?_)
   | (with_reducible refine LeO.bind ?_ (fun _ => ?_))
   | exact ih0 _ _ _ _
   | exact apogeelaw11_awake.mono _
   | exact apogeeref10_Same.mono _ _ _
   | exact apogeeref11_Back.mono _ _
   | exact apogeeref11_Bounds.mono _ _
   | exact apogeeref11_Left.mono _ _
   | exact apogeeref11_Right.mono _ _
   | exact apogeeref11_Side.mono _ _ _ _
   | exact apogeeref11_Simple.mono _ _
   | exact poly_Back.mono _ _
   | exact poly_Bounds.mono _ _
   | exact poly_Left.mono _ _
   | exact poly_Right.mono _ _
   | exact poly_Side.mono _ _ _ _
   | exact poly_Simple.mono _ _
   | exact LeO.none _
   | refine LeO.ite ?_ ?_
   | refine LeO.bind ?_ (fun _ => ?_)
theorem apogeelaw11_PolyTells.mono : ∀ a0 a1 a2 k, LeO (apogeelaw11_PolyTells.f k a0 a1 a2) (apogeelaw11_PolyTells.f (k + 1) a0 a1 a2) := by
 intro a0 a1 a2 k
 have ih0 := apogeelaw11_PolyTells.mono_l k
 unfold apogeelaw11_PolyTells.f
 repeat' first
   | (with_reducible exact ih0 _ _ _ _)
   | (with_reducible exact apogeelaw11_awake.mono _)
   | (with_reducible exact apogeeref10_Same.mono _ _ _)
   | (with_reducible exact apogeeref11_Back.mono _ _)
   | (with_reducible exact apogeeref11_Bounds.mono _ _)
   | (with_reducible exact apogeeref11_Left.mono _ _)
   | (with_reducible exact apogeeref11_Right.mono _ _)
   | (with_reducible exact apogeeref11_Side.mono _ _ _ _)
   | (with_reducible exact apogeeref11_Simple.mono _ _)
   | (with_reducible exact poly_Back.mono _ _)
   | (with_reducible exact poly_Bounds.mono _ _)
   | (with_reducible exact poly_Left.mono _ _)
   | (with_reducible exact poly_Right.mono _ _)
   | (with_reducible exact poly_Side.mono _ _ _ _)
   | (with_reducible exact poly_Simple.mono _ _)
   | (with_reducible exact LeO.refl _)
   | (with_reducible exact LeO.none _)
   | (with_reducible refine LeO.ite ?_ ?_)
   | (with_reducible refine LeO.bind ?_ (fun _ => ?_))
   | exact ih0 _ _ _ _
   | exact apogeelaw11_awake.mono _
   | exact apogeeref10_Same.mono _ _ _
   | exact apogeeref11_Back.mono _ _
   | exact apogeeref11_Bounds.mono _ _
   | exact apogeeref11_Left.mono _ _
   | exact apogeeref11_Right.mono _ _
   | exact apogeeref11_Side.mono _ _ _ _
   | exact apogeeref11_Simple.mono _ _
   | exact poly_Back.mono _ _
   | exact poly_Bounds.mono _ _
   | exact poly_Left.mono _ _
   | exact poly_Right.mono _ _
   | exact poly_Side.mono _ _ _ _
   | exact poly_Simple.mono _ _
   | exact LeO.none _
   | refine LeO.ite ?_ ?_
   | refine LeO.bind ?_ (fun _ => ?_)
def apogeelaw11_PolyTells.T5 : Bool × List (List Nat × List Nat) := (true, [([], []), ([0], [0]), ([], []), ([2, 1], [2]), ([1, 3], [1, 3]), ([4, 3], [4]), ([5], [5]), ([6, 5, 5], [5, 6]), ([5], [5]), ([7, 8, 5], [5, 7, 8]), ([5, 9], [5, 9]), ([10, 7], [10]), ([11], [11]), ([11], [11]), ([12, 13, 11, 11], [11, 12, 13]), ([11], [11]), ([11], [11]), ([15, 16, 14, 11], [11, 15, 16]), ([14, 17, 11], [11, 14, 17]), ([11, 18], [11, 18]), ([19, 17], [19]), ([20], [20]), ([21, 20, 20], [20, 21]), ([20], [20]), ([23, 22, 20], [20, 23]), ([22, 24, 20], [20, 22, 24]), ([20, 25], [20, 25]), ([26, 24], [26]), ([27], [27]), ([28, 27, 27], [27, 28]), ([27], [27]), ([30, 29, 27], [27, 30]), ([29, 31, 31, 27], [27, 29, 31]), ([32, 27], [27, 32]), ([27, 33], [27, 33]), ([34, 32], [34]), ([35], [35]), ([35], [35]), ([36, 37, 35], [35, 36, 37]), ([35, 38], [35, 38])])
def apogeelaw11_PolyTells.B5 : List Nat := [0, 1, 0, 7, 15, 31, 63, 127, 63, 511, 1023, 2047, 4095, 4095, 16383, 4095, 4095, 131071, 262143, 524287, 1048575, 2097151, 4194303, 2097151, 16777215, 33554431, 67108863, 134217727, 268435455, 536870911, 268435455, 2147483647, 4294967295, 8589934591, 17179869183, 34359738367, 68719476735, 68719476735, 274877906943, 549755813887]
theorem apogeelaw11_PolyTells.tab5 : rtab .any (opsOf Try.f7 5) = apogeelaw11_PolyTells.T5 := by kernel_rfl
theorem apogeelaw11_PolyTells.bits5 : waitsOk apogeelaw11_PolyTells.T5.2 apogeelaw11_PolyTells.B5 = true := by kernel_rfl
def apogeelaw11_PolyTells.T7 : Bool × List (List Nat × List Nat) := (true, [([], []), ([0], [0]), ([1], [1]), ([2], [2]), ([2], [2]), ([3, 4, 2], [2, 3, 4]), ([2, 5], [2, 5]), ([6, 2], [6]), ([7], [7]), ([8, 7, 7], [7, 8]), ([9], [9]), ([9], [9]), ([11, 9, 9], [9, 11]), ([10, 12, 9], [9, 10, 12]), ([9, 13, 7], [7, 9, 13]), ([7, 14], [7, 14]), ([15, 12, 0, 1, 2, 3, 4, 5, 6, 7, 8, 9, 10, 11, 12, 13, 14, 15], [15])])
def apogeelaw11_PolyTells.B7 : List Nat := [0, 1, 3, 7, 7, 31, 63, 127, 255, 511, 1023, 1023, 3071, 8191, 16383, 32767, 65535]
theorem apogeelaw11_PolyTells.tab7 : rtab .any (opsOf Try.f7 7) = apogeelaw11_PolyTells.T7 := by kernel_rfl
theorem apogeelaw11_PolyTells.bits7 : waitsOk apogeelaw11_PolyTells.T7.2 apogeelaw11_PolyTells.B7 = true := by kernel_rfl
set_option maxHeartbeats 8000000 in
set_option maxRecDepth 100000 in
theorem apogeelaw11_PolyTells.calls (k : Nat) (A0 : Option Addr) (c0 : Nat) (l0 : List (S41)) (a1_0 : Int) (a1_1 : Int) (r : Bool) (w : World) (hr0 : Kd.C k41 w A0 l0.length l0) (hc0 : l0.length ≤ c0) (h : apogeelaw11_PolyTells.f k l0 a1_0 a1_1 = some r) :
  Calls Try.prog 7 #[.slice A0 l0.length c0, .agg #[.int .i64 a1_0, .int .i64 a1_1]] w fun e w' => e = .returned (.bool r) ∧ Below w.heap.size w w' := by
 have hu41 := Try.underlying41
 have hu44 := Try.underlying44
 have HR0 := bA hr0
 have HC0 := bA hc0
 clear hr0 hc0
 have HB := bA (Below.refl w.heap.size w)
 have H : ((apogeelaw11_awake.f k).bind fun t518 => (if t518 = true then ((apogeelaw11_few.f l0).bind fun t519 => (apogeelaw11_PolyTells.j0 k l0 (!t519) a1_0 a1_1)) else (apogeelaw11_PolyTells.j0 k l0 true a1_0 a1_1))) = some r := h
 clear h
 have HC3 := bA H
 clear H
 go_enter Try.func7, Try.ntmps7
 go_upto_region 1 with (first | ((with_reducible refine gate_dst (N := 3) rfl ?_); refine bE (N := 3) (cs := #[.int .i64 a1_0, .int .i64 a1_1]) (t := 41) ?_; intro gb517 hg w4 hbox hb; have n0_ := bA (bS hb); have n1_ := bA (hbox); have n2_ := bA (bZ hg); have n3_ := bA (bZ hg); clear HB; have HB := n0_; have BK517 := n1_; have GW517 := n2_; have GE517 := n3_; clear n0_ n1_ n2_ n3_; clear hb hbox hg))
 (try simp only [Act.put, List.setIfInBounds_toArray, List.set_cons_zero, List.set_cons_succ])
 go_cut [14] (fun v14 wc => ∃ (kq : Nat) (x14_2 : Bool), v14 = .bool x14_2 ∧ Aside0 (apogeelaw11_PolyTells.j0 kq l0 x14_2 a1_0 a1_1 = some r) ∧ Aside0 (kq ≤ k) ∧ Aside0 (wc.heap[gb517]? = some (.cells #[.int .i64 a1_0, .int .i64 a1_1] 41 (0, 0))) ∧ Aside0 (Below w.heap.size w wc))
 case first =>
  have H := HC3.out
  clear HC3
  replace H := Option.bind_eq_some_iff.mp H
  obtain ⟨t518, A50, H⟩ := H
  have A5 := bA A50
  clear A50
  by_cases c6 : t518 = true
  subst c6
  rw [if_pos rfl] at H
  replace H := Option.bind_eq_some_iff.mp H
  obtain ⟨t519, A70, H⟩ := H
  have A7 := bA A70
  clear A70
  have H' := bA H
  clear H
  rotate_left
  replace c6 := Bool.eq_false_iff.mpr c6
  subst c6
  rw [if_neg bn] at H
  have H' := bA H
  clear H
  rotate_left
  all_goals go_wp2_with (first | ((first | ((with_reducible refine gate_callee (f := 25) rfl ?_); refine bC (some 8) Try.func25 #[] ?_) | go_at_call 25); (with_reducible refine (apogeelaw11_awake.calls k  true _ A5.out).mono ?_); rintro e wz0 ⟨rfl, hb⟩; (first | refine ⟨_, rfl, ?_⟩ | skip); replace BK517 := bA (bB BK517 hb); replace HB := bA (bS hb); (try clear hb)) | (go_at_call 26; (with_reducible refine (apogeelaw11_few.calls _ _ l0 t519 _ ?side1 ?side2 A7.out).mono ?_); (case side1 => exact bQ HR0); (case side2 => exact HC0.out); rintro e w' ⟨rfl, ⟨nd, rfl⟩⟩) | ((first | ((with_reducible refine gate_callee (f := 25) rfl ?_); refine bC (some 8) Try.func25 #[] ?_) | go_at_call 25); (with_reducible refine (apogeelaw11_awake.calls k  false _ A5.out).mono ?_); rintro e wz0 ⟨rfl, hb⟩; (first | refine ⟨_, rfl, ?_⟩ | skip); replace BK517 := bA (bB BK517 hb); replace HB := bA (bS hb); (try clear hb)))
  ·go_meet
   case rel => exact ⟨_, (!t519), bs, H', ⟨by first | omega | exact Nat.le_refl _⟩, ⟨by (with_reducible repeat (first | refine blk_drewN ?_ _ | refine blk_drew ?_ | refine blk_alloc ?_ _)); exact BK517.out⟩, ⟨bX⟩⟩
  go_meet
  case rel => exact ⟨_, (true), bs, H', ⟨by first | omega | exact Nat.le_refl _⟩, ⟨by (with_reducible repeat (first | refine blk_drewN ?_ _ | refine blk_drew ?_ | refine blk_alloc ?_ _)); exact BK517.out⟩, ⟨bX⟩⟩
 clear HC3
 try clear c2
 try clear p2
 try clear c6
 try clear c7
 obtain ⟨kq, x14_2, rfl, HA, HJ2, BK517, HB⟩ := hcut
 cases kq with
 | zero => exact absurd HA.out (by simp [apogeelaw11_PolyTells.j0])
 | succ kj2 =>
  have H := HA.out
  clear HA
  simp only [apogeelaw11_PolyTells.j0] at H
  by_cases c10 : x14_2 = true
  ·subst c10
   rw [if_pos rfl] at H
   replace H := Option.bind_eq_some_iff.mp H
   obtain ⟨t520, A110, H⟩ := H
   have A11 := bA A110
   clear A110
   obtain rfl := Option.some.inj H
   go_wp2_with (first | ((first | ((with_reducible refine gate_callee (f := 25) rfl ?_); refine bC (some 15) Try.func25 #[] ?_) | go_at_call 25); (with_reducible refine (apogeelaw11_awake.calls kj2  t520 _ A11.out).mono ?_); rintro e w12 ⟨rfl, hb⟩; (first | refine ⟨_, rfl, ?_⟩ | skip); replace BK517 := bA (bB BK517 hb); replace HB := bA (bS hb); (try clear hb)))
   go_ret
   exact bF
  replace c10 := Bool.eq_false_iff.mpr c10
  subst c10
  rw [if_neg bn] at H
  replace H := Option.bind_eq_some_iff.mp H
  obtain ⟨⟨t521, t522, t523, t524, t525⟩, A130, H⟩ := H
  replace H : ((apogeeref11_Right.f kj2 l0).bind fun t527 => ((poly_Simple.f kj2 l0).bind fun t528 => ((apogeeref11_Simple.f kj2 l0).bind fun t529 => (if (t528 != t529) = true then (none) else ((poly_Right.f kj2 l0).bind fun t530 => (if (t530 != t527) = true then (none) else ((poly_Side.f kj2 l0 a1_0 a1_1).bind fun t531 => ((apogeeref11_Side.f kj2 l0 a1_0 a1_1).bind fun t532 => (if t531 = t532 then ((poly_Left.f kj2 l0).bind fun t533 => ((apogeeref11_Left.f kj2 l0).bind fun t534 => (if (t533 != t534) = true then (none) else ((poly_Back.f kj2 l0).bind fun t535 => ((apogeeref11_Back.f kj2 l0).bind fun t538 => ((apogeeref10_Same.f kj2 t535 t538).bind fun t541 => (if t541 = true then (if (t525 != t527) = true then (none) else (if t527 = true then ((apogeeref11_Bounds.f kj2 l0).bind fun bt542 => (some ((t521 == bt542.1 && (t522 == bt542.2.1)) && ((t523 == bt542.2.2.1 && (t524 == bt542.2.2.2)))))) else (if ((t521 == 0 && (t522 == 0)) && ((t523 == 0 && (t524 == 0)))) = true then (some true) else (none)))) else (none)))))))) else (none)))))))))) = some r := H
  have A13 := bA A130
  clear A130
  replace H := Option.bind_eq_some_iff.mp H
  obtain ⟨t527, A140, H⟩ := H
  have A14 := bA A140
  clear A140
  replace H := Option.bind_eq_some_iff.mp H
  obtain ⟨t528, A150, H⟩ := H
  have A15 := bA A150
  clear A150
  replace H := Option.bind_eq_some_iff.mp H
  obtain ⟨t529, A160, H⟩ := H
  have A16 := bA A160
  clear A160
  by_cases c17 : (t528 != t529) = true
  ·rw [if_pos c17] at H
   have c17b0 : (t528 != t529) = true := c17
   (try (have c17b1 : decide (t528 = t529) = false := by simpa using c17))
   (try (have c17b2 : (t528 == t529) = false := by simpa using c17))
   (try (have c17b3 : ¬ (t528 = t529) := by simpa using c17))
   clear c17
   exact absurd H (by simp)
  rw [if_neg c17] at H
  have c17b0 : (t528 != t529) = false := by simpa using c17
  (try (have c17b1 : decide (t528 = t529) = true := by simpa using c17))
  (try (have c17b2 : (t528 == t529) = true := by simpa using c17))
  clear c17
  replace H := Option.bind_eq_some_iff.mp H
  obtain ⟨t530, A180, H⟩ := H
  have A18 := bA A180
  clear A180
  by_cases c19 : (t530 != t527) = true
  ·rw [if_pos c19] at H
   have c19b0 : (t530 != t527) = true := c19
   (try (have c19b1 : decide (t530 = t527) = false := by simpa using c19))
   (try (have c19b2 : (t530 == t527) = false := by simpa using c19))
   (try (have c19b3 : ¬ (t530 = t527) := by simpa using c19))
   clear c19
   exact absurd H (by simp)
  rw [if_neg c19] at H
  have c19b0 : (t530 != t527) = false := by simpa using c19
  (try (have c19b1 : decide (t530 = t527) = true := by simpa using c19))
  (try (have c19b2 : (t530 == t527) = true := by simpa using c19))
  clear c19
  replace H := Option.bind_eq_some_iff.mp H
  obtain ⟨t531, A200, H⟩ := H
  have A20 := bA A200
  clear A200
  replace H := Option.bind_eq_some_iff.mp H
  obtain ⟨t532, A210, H⟩ := H
  have A21 := bA A210
  clear A210
  by_cases c22 : t531 = t532
  rotate_left
  ·rw [if_neg c22] at H
   have c22b0 : (t531 == t532) = false := beq_eq_false_iff_ne.mpr c22
   have c22b1 : (t531 != t532) = true := bne_iff_ne.mpr c22
   exact absurd H (by simp)
  rw [if_pos c22] at H
  have c22b0 : (t531 == t532) = true := beq_iff_eq.mpr c22
  have c22b1 : (t531 != t532) = false := bne_eq_false_iff_eq.mpr c22
  clear c22
  replace H := Option.bind_eq_some_iff.mp H
  obtain ⟨t533, A230, H⟩ := H
  have A23 := bA A230
  clear A230
  replace H := Option.bind_eq_some_iff.mp H
  obtain ⟨t534, A240, H⟩ := H
  have A24 := bA A240
  clear A240
  by_cases c25 : (t533 != t534) = true
  ·rw [if_pos c25] at H
   have c25b0 : (t533 != t534) = true := c25
   (try (have c25b1 : decide (t533 = t534) = false := by simpa using c25))
   (try (have c25b2 : (t533 == t534) = false := by simpa using c25))
   (try (have c25b3 : ¬ (t533 = t534) := by simpa using c25))
   clear c25
   exact absurd H (by simp)
  rw [if_neg c25] at H
  have c25b0 : (t533 != t534) = false := by simpa using c25
  (try (have c25b1 : decide (t533 = t534) = true := by simpa using c25))
  (try (have c25b2 : (t533 == t534) = true := by simpa using c25))
  clear c25
  replace H := Option.bind_eq_some_iff.mp H
  obtain ⟨t535, A260, H⟩ := H
  have A26 := bA A260
  clear A260
  replace H := Option.bind_eq_some_iff.mp H
  obtain ⟨t538, A270, H⟩ := H
  have A27 := bA A270
  clear A270
  replace H := Option.bind_eq_some_iff.mp H
  obtain ⟨t541, A280, H⟩ := H
  have A28 := bA A280
  clear A280
  by_cases c29 : t541 = true
  rotate_left
  ·replace c29 := Bool.eq_false_iff.mpr c29
   subst c29
   rw [if_neg bn] at H
   exact absurd H (by simp)
  subst c29
  rw [if_pos rfl] at H
  by_cases c30 : (t525 != t527) = true
  ·rw [if_pos c30] at H
   exact absurd H (by simp)
  rw [if_neg c30] at H
  have c30b0 : (t525 != t527) = false := by simpa using c30
  (try (have c30b1 : decide (t525 = t527) = true := by simpa using c30))
  (try (have c30b2 : (t525 == t527) = true := by simpa using c30))
  clear c30
  by_cases c31 : t527 = true
  ·subst c31
   rw [if_pos rfl] at H
   replace H := Option.bind_eq_some_iff.mp H
   obtain ⟨⟨t542, t543, t544, t545⟩, A320, H⟩ := H
   replace H : (some ((t521 == t542 && (t522 == t543)) && ((t523 == t544 && (t524 == t545))))) = some r := H
   have A32 := bA A320
   clear A320
   obtain rfl := Option.some.inj H
   try go_wp2_with (first | ((first | ((with_reducible refine gate_callee (f := 27) rfl ?_); refine bC (some 18) Try.func27 #[.slice A0 l0.length c0] ?_) | go_at_call 27); (with_reducible refine (poly_Bounds.calls kj2 _ _ l0 t521 t522 t523 t524 t525 _ ?side1 ?side2 A13.out).mono ?_); (case side1 => exact bQ HR0); (case side2 => exact HC0.out); rintro e w33 ⟨rfl, hb⟩; (first | refine ⟨_, rfl, ?_⟩ | skip); replace BK517 := bA (bB BK517 hb); replace HB := bA (bS hb); (try clear hb)) | ((with_reducible refine gate_dst (N := 5) rfl ?_); refine bE (N := 5) (cs := #[.int .i64 0, .int .i64 0, .int .i64 0, .int .i64 0]) (t := 44) ?_; intro gb526 hg w34 hbox hb; have BK526 := bA (hbox); have GW526 := bA (bZ hg); have GE526 := bA (bZ hg); have NB517_526 := bA (bL BK517 hg); have NB526_517 := bA (bG BK517 hg); replace BK517 := bA (bB BK517 hb); replace HB := bA (bS hb); clear hb hbox hg; have hnb35 := NB526_517.out; have hnc35 := NB517_526.out; obtain ⟨hcz36_0, hcz36_1, hcz36_2, hcz36_3, hfz36_0, hfz36_1, hfz36_2, hfz36_3⟩ := bc4 BK526) | ((first | ((with_reducible refine gate_callee (f := 28) rfl ?_); refine bC (some 22) Try.func28 #[.slice A0 l0.length c0] ?_) | go_at_call 28); (with_reducible refine (apogeeref11_Right.calls kj2 _ _ l0 true _ ?side1 ?side2 A14.out).mono ?_); (case side1 => exact Kd.C_below HR0.out bX); (case side2 => exact HC0.out); rintro e w37 ⟨rfl, hb⟩; (first | refine ⟨_, rfl, ?_⟩ | skip); replace BK517 := bA (blk_below (g := gb517) (o := .cells #[.int .i64 a1_0, .int .i64 a1_1] 41 (0, 0)) (by (repeat ((with_reducible repeat (first | refine blk_drewN ?_ _ | refine blk_drew ?_ | refine blk_alloc ?_ _)); refine blk_far ?_ NB517_526.out _)); (with_reducible repeat (first | refine blk_drewN ?_ _ | refine blk_drew ?_ | refine blk_alloc ?_ _)); exact BK517.out) hb); replace BK526 := bA (blk_below (g := gb526) (o := .cells #[.int .i64 t521, .int .i64 t522, .int .i64 t523, .int .i64 t524] 44 (0, 0)) (by (with_reducible repeat (first | refine blk_drewN ?_ _ | refine blk_drew ?_ | refine blk_alloc ?_ _)); refine blk_put (cs := #[.int .i64 t521, .int .i64 t522, .int .i64 t523, .int .i64 0]) ?_ 3 _ rfl; (with_reducible repeat (first | refine blk_drewN ?_ _ | refine blk_drew ?_ | refine blk_alloc ?_ _)); refine blk_put (cs := #[.int .i64 t521, .int .i64 t522, .int .i64 0, .int .i64 0]) ?_ 2 _ rfl; (with_reducible repeat (first | refine blk_drewN ?_ _ | refine blk_drew ?_ | refine blk_alloc ?_ _)); refine blk_put (cs := #[.int .i64 t521, .int .i64 0, .int .i64 0, .int .i64 0]) ?_ 1 _ rfl; (with_reducible repeat (first | refine blk_drewN ?_ _ | refine blk_drew ?_ | refine blk_alloc ?_ _)); refine blk_put (cs := #[.int .i64 0, .int .i64 0, .int .i64 0, .int .i64 0]) ?_ 0 _ rfl; (with_reducible repeat (first | refine blk_drewN ?_ _ | refine blk_drew ?_ | refine blk_alloc ?_ _)); exact BK526.out) hb); replace HB := bA (bS hb); (try clear hb)))
   replace BK517 := bA (blk_drew BK517.out)
   replace BK526 := bA (blk_drew BK526.out)
   replace HB := bA (below_drew1 HB.out)
   refine start_ (n := 40) (S := fun w' => w'.cell? ⟨gb517, 0, none⟩ = some (.int .i64 a1_0) ∧ w'.cell? ⟨gb517, 1, none⟩ = some (.int .i64 a1_1)) (ds := []) #[false,false,false,false,false,false,false,false,false,false,false,false,false,false,false,false,false,false,false,false,false,false,false,false,false,false,false,false,false,false,false,false,false,false,false,false,false,false,false,false] (by kernel_rfl) rfl rfl ⟨bq BK517 0, bq BK517 1⟩ (fun hHeld => ?_); refine with_tabW apogeelaw11_PolyTells.tab5 apogeelaw11_PolyTells.bits5 (fun HT_ HW_ => ?_)
   generalize w37.drew = w38 at BK517 BK526 HB hHeld ⊢
   refine bU (i := 0) (N := some 23) ?_
   refine bU (i := 2) (N := some 25) ?_
   refine one_ (i := 1) (N := some 24) #[true,true,true,false,false,false,false,false,false,false,false,false,false,false,false,false,false,false,false,false,false,false,false,false,false,false,false,false,false,false,false,false,false,false,false,false,false,false,false,false] rfl rfl (one_of HT_.out (by kernel_rfl)) (by decide) (fun K hK => ?_)
   refine goes_ Try.func29 (by kernel_rfl) rfl #[.slice A0 l0.length c0] (by rfl) rfl rfl (by (try simp only [List.map_toArray, List.map_cons, List.map_nil]); first | done | rfl | (simp only [List.length_drop, List.length_take]; rfl)) ?_
   with_reducible refine (poly_Simple.calls kj2 _ _ l0 t528 _ ?side1 ?side2 A15.out).mono ?_
   (case side1 => exact bQ HR0)
   (case side2 => exact HC0.out)
   rintro e w39 ⟨rfl, hb⟩
   refine ⟨_, rfl, ?_⟩
   replace BK517 := bA (bB BK517 hb)
   replace BK526 := bA (bB BK526 hb)
   replace HB := bA (bS hb)
   (try clear hb)
   refine hK.out _ _ ⟨bq BK517 0, bq BK517 1⟩ (fun hHeld => ?_)
   clear hK K
   refine bH ?_
   refine one_ (i := 3) (N := some 26) #[true,true,true,true,false,false,false,false,false,false,false,false,false,false,false,false,false,false,false,false,false,false,false,false,false,false,false,false,false,false,false,false,false,false,false,false,false,false,false,false] rfl rfl (one_of HT_.out (by kernel_rfl)) (by decide) (fun K hK => ?_)
   refine goes_ Try.func30 (by kernel_rfl) rfl #[.slice A0 l0.length c0] (by rfl) rfl rfl (by (try simp only [List.map_toArray, List.map_cons, List.map_nil]); first | done | rfl | (simp only [List.length_drop, List.length_take]; rfl)) ?_
   with_reducible refine (apogeeref11_Simple.calls kj2 _ _ l0 t529 _ ?side1 ?side2 A16.out).mono ?_
   (case side1 => exact bQ HR0)
   (case side2 => exact HC0.out)
   rintro e w40 ⟨rfl, hb⟩
   refine ⟨_, rfl, ?_⟩
   replace BK517 := bA (bB BK517 hb)
   replace BK526 := bA (bB BK526 hb)
   replace HB := bA (bS hb)
   (try clear hb)
   refine hK.out _ _ ⟨bq BK517 0, bq BK517 1⟩ (fun hHeld => ?_)
   clear hK K
   refine bH ?_
   refine bU (i := 4) (N := some 27) ?_
   refine bU (i := 5) (N := some 28) ?_
   refine bU (i := 6) (N := some 29) ?_
   refine bU (i := 8) (N := some 31) ?_
   refine one_ (i := 7) (N := some 30) #[true,true,true,true,true,true,true,true,true,false,false,false,false,false,false,false,false,false,false,false,false,false,false,false,false,false,false,false,false,false,false,false,false,false,false,false,false,false,false,false] rfl rfl (one_of HT_.out (by kernel_rfl)) (by decide) (fun K hK => ?_)
   refine goes_ Try.func31 (by kernel_rfl) rfl #[.slice A0 l0.length c0] (by rfl) rfl rfl (by (try simp only [List.map_toArray, List.map_cons, List.map_nil]); first | done | rfl | (simp only [List.length_drop, List.length_take]; rfl)) ?_
   with_reducible refine (poly_Right.calls kj2 _ _ l0 t530 _ ?side1 ?side2 A18.out).mono ?_
   (case side1 => exact bQ HR0)
   (case side2 => exact HC0.out)
   rintro e w41 ⟨rfl, hb⟩
   refine ⟨_, rfl, ?_⟩
   replace BK517 := bA (bB BK517 hb)
   replace BK526 := bA (bB BK526 hb)
   replace HB := bA (bS hb)
   (try clear hb)
   refine hK.out _ _ ⟨bq BK517 0, bq BK517 1⟩ (fun hHeld => ?_)
   clear hK K
   refine bH ?_
   refine bU (i := 9) (N := some 32) ?_
   refine bU (i := 10) (N := some 33) ?_
   refine bU (i := 11) (N := some 34) ?_
   refine bU (i := 12) (N := some 35) ?_
   refine bU (i := 15) (N := some 38) ?_
   refine bW (i := 13) (N := some 36) hHeld ?_
   refine bW (i := 16) (N := some 39) hHeld ?_
   refine one_ (i := 14) (N := some 37) #[true,true,true,true,true,true,true,true,true,true,true,true,true,true,true,true,true,false,false,false,false,false,false,false,false,false,false,false,false,false,false,false,false,false,false,false,false,false,false,false] rfl rfl (one_of HT_.out (by kernel_rfl)) (by decide) (fun K hK => ?_)
   refine goes_ Try.func32 (by kernel_rfl) rfl #[.slice A0 l0.length c0, .agg #[.int .i64 a1_0, .int .i64 a1_1]] (by rfl) rfl rfl (by (try simp only [List.map_toArray, List.map_cons, List.map_nil]); first | done | rfl | (simp only [List.length_drop, List.length_take]; rfl)) ?_
   with_reducible refine (poly_Side.calls kj2 _ _ l0 a1_0 a1_1 t531 _ ?side1 ?side2 A20.out).mono ?_
   (case side1 => exact bQ HR0)
   (case side2 => exact HC0.out)
   rintro e w42 ⟨rfl, hb⟩
   refine ⟨_, rfl, ?_⟩
   replace BK517 := bA (bB BK517 hb)
   replace BK526 := bA (bB BK526 hb)
   replace HB := bA (bS hb)
   (try clear hb)
   refine hK.out _ _ ⟨bq BK517 0, bq BK517 1⟩ (fun hHeld => ?_)
   clear hK K
   refine bH ?_
   refine one_ (i := 17) (N := some 40) #[true,true,true,true,true,true,true,true,true,true,true,true,true,true,true,true,true,true,false,false,false,false,false,false,false,false,false,false,false,false,false,false,false,false,false,false,false,false,false,false] rfl rfl (one_of HT_.out (by kernel_rfl)) (by decide) (fun K hK => ?_)
   refine goes_ Try.func33 (by kernel_rfl) rfl #[.slice A0 l0.length c0, .agg #[.int .i64 a1_0, .int .i64 a1_1]] (by rfl) rfl rfl (by (try simp only [List.map_toArray, List.map_cons, List.map_nil]); first | done | rfl | (simp only [List.length_drop, List.length_take]; rfl)) ?_
   with_reducible refine (apogeeref11_Side.calls kj2 _ _ l0 a1_0 a1_1 t532 _ ?side1 ?side2 A21.out).mono ?_
   (case side1 => exact bQ HR0)
   (case side2 => exact HC0.out)
   rintro e w43 ⟨rfl, hb⟩
   refine ⟨_, rfl, ?_⟩
   replace BK517 := bA (bB BK517 hb)
   replace BK526 := bA (bB BK526 hb)
   replace HB := bA (bS hb)
   (try clear hb)
   refine hK.out _ _ ⟨bq BK517 0, bq BK517 1⟩ (fun hHeld => ?_)
   clear hK K
   refine bH ?_
   refine bU (i := 18) (N := some 41) ?_
   refine bU (i := 19) (N := some 42) ?_
   refine bU (i := 20) (N := some 43) ?_
   refine bU (i := 21) (N := some 44) ?_
   refine bU (i := 23) (N := some 46) ?_
   refine one_ (i := 22) (N := some 45) #[true,true,true,true,true,true,true,true,true,true,true,true,true,true,true,true,true,true,true,true,true,true,true,true,false,false,false,false,false,false,false,false,false,false,false,false,false,false,false,false] rfl rfl (one_of HT_.out (by kernel_rfl)) (by decide) (fun K hK => ?_)
   refine goes_ Try.func34 (by kernel_rfl) rfl #[.slice A0 l0.length c0] (by rfl) rfl rfl (by (try simp only [List.map_toArray, List.map_cons, List.map_nil]); first | done | rfl | (simp only [List.length_drop, List.length_take]; rfl)) ?_
   with_reducible refine (poly_Left.calls kj2 _ _ l0 t533 _ ?side1 ?side2 A23.out).mono ?_
   (case side1 => exact bQ HR0)
   (case side2 => exact HC0.out)
   rintro e w44 ⟨rfl, hb⟩
   refine ⟨_, rfl, ?_⟩
   replace BK517 := bA (bB BK517 hb)
   replace BK526 := bA (bB BK526 hb)
   replace HB := bA (bS hb)
   (try clear hb)
   refine hK.out _ _ ⟨bq BK517 0, bq BK517 1⟩ (fun hHeld => ?_)
   clear hK K
   refine bH ?_
   refine one_ (i := 24) (N := some 47) #[true,true,true,true,true,true,true,true,true,true,true,true,true,true,true,true,true,true,true,true,true,true,true,true,true,false,false,false,false,false,false,false,false,false,false,false,false,false,false,false] rfl rfl (one_of HT_.out (by kernel_rfl)) (by decide) (fun K hK => ?_)
   refine goes_ Try.func35 (by kernel_rfl) rfl #[.slice A0 l0.length c0] (by rfl) rfl rfl (by (try simp only [List.map_toArray, List.map_cons, List.map_nil]); first | done | rfl | (simp only [List.length_drop, List.length_take]; rfl)) ?_
   with_reducible refine (apogeeref11_Left.calls kj2 _ _ l0 t534 _ ?side1 ?side2 A24.out).mono ?_
   (case side1 => exact bQ HR0)
   (case side2 => exact HC0.out)
   rintro e w45 ⟨rfl, hb⟩
   refine ⟨_, rfl, ?_⟩
   replace BK517 := bA (bB BK517 hb)
   replace BK526 := bA (bB BK526 hb)
   replace HB := bA (bS hb)
   (try clear hb)
   refine hK.out _ _ ⟨bq BK517 0, bq BK517 1⟩ (fun hHeld => ?_)
   clear hK K
   refine bH ?_
   refine bU (i := 25) (N := some 48) ?_
   refine bU (i := 26) (N := some 49) ?_
   refine bU (i := 27) (N := some 50) ?_
   refine bU (i := 28) (N := some 51) ?_
   refine bU (i := 30) (N := some 53) ?_
   refine one_ (i := 29) (N := some 52) #[true,true,true,true,true,true,true,true,true,true,true,true,true,true,true,true,true,true,true,true,true,true,true,true,true,true,true,true,true,true,true,false,false,false,false,false,false,false,false,false] rfl rfl (one_of HT_.out (by kernel_rfl)) (by decide) (fun K hK => ?_)
   refine goes_ Try.func37 (by kernel_rfl) rfl #[.slice A0 l0.length c0] (by rfl) rfl rfl (by (try simp only [List.map_toArray, List.map_cons, List.map_nil]); first | done | rfl | (simp only [List.length_drop, List.length_take]; rfl)) ?_
   with_reducible refine (poly_Back.calls kj2 _ _ l0 t535 _ ?side1 ?side2 A26.out).mono ?_
   (case side1 => exact bQ HR0)
   (case side2 => exact HC0.out)
   rintro e w46 ⟨v536, rfl, ho0, hb⟩
   refine ⟨_, rfl, ?_⟩
   have HO537 := bA (Kd.R_lower (bN ho0 BK517) bY)
   replace BK517 := bA (bB BK517 hb)
   replace BK526 := bA (bB BK526 hb)
   replace HB := bA (bS hb)
   (try clear hb)
   (try clear ho0)
   refine hK.out _ _ ⟨bq BK517 0, bq BK517 1⟩ (fun hHeld => ?_)
   clear hK K
   refine bH ?_
   refine one_ (i := 31) (N := some 54) #[true,true,true,true,true,true,true,true,true,true,true,true,true,true,true,true,true,true,true,true,true,true,true,true,true,true,true,true,true,true,true,true,false,false,false,false,false,false,false,false] rfl rfl (one_of HT_.out (by kernel_rfl)) (by decide) (fun K hK => ?_)
   refine goes_ Try.func38 (by kernel_rfl) rfl #[.slice A0 l0.length c0] (by rfl) rfl rfl (by (try simp only [List.map_toArray, List.map_cons, List.map_nil]); first | done | rfl | (simp only [List.length_drop, List.length_take]; rfl)) ?_
   with_reducible refine (apogeeref11_Back.calls kj2 _ _ l0 t538 _ ?side1 ?side2 A27.out).mono ?_
   (case side1 => exact bQ HR0)
   (case side2 => exact HC0.out)
   rintro e w47 ⟨v539, rfl, ho0, hb⟩
   refine ⟨_, rfl, ?_⟩
   have HO540 := bA (Kd.R_lower (Kd.R_newB (Kd.R_new' ho0 (Kd.R_lt (bRr HO537))) (g := gb517) (o := .cells #[.int .i64 a1_0, .int .i64 a1_1] 41 (0, 0)) (bP BK517)) bY)
   replace HO537 := bA (Kd.R_elder' (bRr HO537) (Kd.R_base ho0) hb)
   replace BK517 := bA (bB BK517 hb)
   replace BK526 := bA (bB BK526 hb)
   replace HB := bA (bS hb)
   (try clear hb)
   (try clear ho0)
   obtain ⟨Ao48, co48, eo48⟩ := Kd.R_slice HO537.out
   (first | subst eo48 | (injection eo48 with f1_ f2_ f3_; have f4_ := f1_.symm; have f5_ := f3_.symm; clear f1_ f2_ f3_; subst f4_; subst f5_))
   obtain ⟨Ao49, co49, eo49⟩ := Kd.R_slice HO540.out
   (first | subst eo49 | (injection eo49 with f1_ f2_ f3_; have f4_ := f1_.symm; have f5_ := f3_.symm; clear f1_ f2_ f3_; subst f4_; subst f5_))
   refine hK.out _ _ ⟨bq BK517 0, bq BK517 1⟩ (fun hHeld => ?_)
   clear hK K
   refine bH ?_
   refine one_ (i := 32) (N := some 55) #[true,true,true,true,true,true,true,true,true,true,true,true,true,true,true,true,true,true,true,true,true,true,true,true,true,true,true,true,true,true,true,true,true,false,false,false,false,false,false,false] rfl rfl (one_of HT_.out (by kernel_rfl)) (by decide) (fun K hK => ?_)
   refine goes_ Try.func36 (by kernel_rfl) rfl #[.slice Ao48 t535.length co48, .slice Ao49 t538.length co49] (by rfl) rfl rfl (by (try simp only [List.map_toArray, List.map_cons, List.map_nil]); first | done | rfl | (simp only [List.length_drop, List.length_take]; rfl)) ?_
   with_reducible refine (apogeeref10_Same.calls kj2 _ _ t535 _ _ t538 true _ ?side1 ?side2 ?side3 ?side4 A28.out).mono ?_
   (case side1 => repeat (first | exact (Kd.R_reads' HO537.out).2.2 | (with_reducible refine Kd.C_alloc ?_ _) | (with_reducible refine Kd.C_drewN ?_ _) | (with_reducible refine Kd.C_drew ?_)))
   (case side2 => exact (Kd.R_reads' HO537.out).2.1)
   (case side3 => repeat (first | exact (Kd.R_reads' HO540.out).2.2 | (with_reducible refine Kd.C_alloc ?_ _) | (with_reducible refine Kd.C_drewN ?_ _) | (with_reducible refine Kd.C_drew ?_)))
   (case side4 => exact (Kd.R_reads' HO540.out).2.1)
   rintro e w' ⟨rfl, ⟨nd, rfl⟩⟩
   refine ⟨_, rfl, ?_⟩
   refine hK.out _ _ ⟨bq BK517 0, bq BK517 1⟩ (fun hHeld => ?_)
   clear hK K
   refine bH ?_
   refine bU (i := 33) (N := some 56) ?_
   refine bU (i := 34) (N := some 57) ?_
   refine bU (i := 35) (N := some 58) ?_
   refine bU (i := 36) (N := some 59) ?_
   refine bU (i := 37) (N := some 60) ?_
   refine bU (i := 38) (N := some 61) ?_
   refine bU (i := 39) (N := some 62) ?_
   refine done_ (done_of HT_.out (by kernel_rfl)) ?_
   try go_wp2
   (try (rw [drewN_self w47]; generalize hq_ : World.drewN w47 _ = w47; have n0_ : Aside0 (Kd.R k41 41 w47 w.heap.size (fun k_ => some k_ ≠ (.slice Ao49 t538.length co49 : Value).ownBlock ∧ k_ ≠ gb517) (.slice Ao48 t535.length co48) t535) := ⟨by rw [← hq_]; exact (by (with_reducible repeat (first | apply Kd.R_alloc | apply Kd.R_drewN | apply Kd.R_drew)); exact Kd.R_mono HO537.out (fun _ hk => ⟨hk.2, hk.1.2⟩))⟩; have n1_ : Aside0 (Kd.R k41 41 w47 w.heap.size (fun k_ => some k_ ≠ (.slice Ao48 t535.length co48 : Value).ownBlock ∧ k_ ≠ gb517) (.slice Ao49 t538.length co49) t538) := ⟨by rw [← hq_]; exact (by (with_reducible repeat (first | apply Kd.R_alloc | apply Kd.R_drewN | apply Kd.R_drew)); exact Kd.R_mono HO540.out (fun _ hk => ⟨hk.1.2, hk.2⟩))⟩; have n2_ : Aside0 (w47.heap[gb517]? = some (.cells #[.int .i64 a1_0, .int .i64 a1_1] 41 (0, 0))) := ⟨by rw [← hq_]; exact (bP BK517)⟩; have n3_ : Aside0 (w47.heap[gb526]? = some (.cells #[.int .i64 t521, .int .i64 t522, .int .i64 t523, .int .i64 t524] 44 (0, 0))) := ⟨by rw [← hq_]; exact (bP BK526)⟩; have n4_ : Aside0 (Below w.heap.size w w47) := ⟨by rw [← hq_]; exact bX⟩; clear HO537 HO540 BK517 BK526 HB hq_; have HO537 := n0_; have HO540 := n1_; have BK517 := n2_; have BK526 := n3_; have HB := n4_; clear n0_ n1_ n2_ n3_ n4_))
   replace HO537 := bA (Kd.R_drew HO537.out)
   replace HO540 := bA (Kd.R_drew HO540.out)
   replace BK517 := bA (blk_drew BK517.out)
   replace BK526 := bA (blk_drew BK526.out)
   replace HB := bA (below_drew1 HB.out)
   refine start_ (n := 17) (S := fun w' => w'.cell? ⟨gb526, 0, none⟩ = some (.int .i64 t521) ∧ w'.cell? ⟨gb526, 1, none⟩ = some (.int .i64 t522) ∧ w'.cell? ⟨gb526, 2, none⟩ = some (.int .i64 t523) ∧ w'.cell? ⟨gb526, 3, none⟩ = some (.int .i64 t524)) (ds := []) #[false,false,false,false,false,false,false,false,false,false,false,false,false,false,false,false,false] (by kernel_rfl) rfl rfl ⟨bq BK526 0, bq BK526 1, bq BK526 2, bq BK526 3⟩ (fun hHeld => ?_); refine with_tabW apogeelaw11_PolyTells.tab7 apogeelaw11_PolyTells.bits7 (fun HT_ HW_ => ?_)
   generalize w47.drew = w50 at HO537 HO540 BK517 BK526 HB hHeld ⊢
   refine bU (i := 0) (N := some 63) ?_
   refine bU (i := 1) (N := some 64) ?_
   refine bU (i := 2) (N := some 65) ?_
   refine pure_ (i := 3) (N := some 66) (v := undef) (a' := ?_) #[true,true,true,true,false,false,false,false,false,false,false,false,false,false,false,false,false] rfl rfl (any_of HT_.out (by kernel_rfl)) (fun _ _ _ h => h) (Or.inr ⟨by rfl, rfl⟩) ?_ ?_
   rotate_left
   ·simp only [Act.put, List.setIfInBounds_toArray, List.set_cons_zero, List.set_cons_succ, i64_w, i32_w]
    rfl
   refine pure_ (i := 4) (N := some 67) (v := undef) (a' := ?_) #[true,true,true,true,true,false,false,false,false,false,false,false,false,false,false,false,false] rfl rfl (any_of HT_.out (by kernel_rfl)) (fun _ _ _ h => h) (Or.inr ⟨by rfl, rfl⟩) ?_ ?_
   rotate_left
   ·simp only [Act.put, List.setIfInBounds_toArray, List.set_cons_zero, List.set_cons_succ, i64_w, i32_w]
    rfl
   refine pure_ (i := 5) (N := some 68) (v := undef) (a' := ?_) #[true,true,true,true,true,true,false,false,false,false,false,false,false,false,false,false,false] rfl rfl (any_of HT_.out (by kernel_rfl)) (fun _ _ _ h => h) (Or.inr ⟨by rfl, rfl⟩) ?_ ?_
   rotate_left
   ·simp only [Act.put, List.setIfInBounds_toArray, List.set_cons_zero, List.set_cons_succ, i64_w, i32_w]
    rfl
   refine bU (i := 6) (N := some 69) ?_
   refine bU (i := 7) (N := some 70) ?_
   refine bU (i := 8) (N := some 71) ?_
   refine bU (i := 9) (N := some 72) ?_
   refine bU (i := 11) (N := some 74) ?_
   refine bW (i := 10) (N := some 73) hHeld ?_
   refine one_ (i := 12) (N := some 75) #[true,true,true,true,true,true,true,true,true,true,true,true,true,false,false,false,false] rfl rfl (one_of HT_.out (by kernel_rfl)) (by decide) (fun K hK => ?_)
   refine goes_ Try.func39 (by kernel_rfl) rfl #[.slice A0 l0.length c0] (by rfl) rfl rfl (by (try simp only [List.map_toArray, List.map_cons, List.map_nil]); first | done | rfl | (simp only [List.length_drop, List.length_take]; rfl)) ?_
   with_reducible refine (apogeeref11_Bounds.calls kj2 _ _ l0 t542 t543 t544 t545 _ ?side1 ?side2 A32.out).mono ?_
   (case side1 => exact bQ HR0)
   (case side2 => exact HC0.out)
   rintro e w51 ⟨rfl, hb⟩
   refine ⟨_, rfl, ?_⟩
   replace HO537 := bA (Kd.R_below (bRr HO537) hb)
   replace HO540 := bA (Kd.R_below (bRr HO540) hb)
   replace BK517 := bA (bB BK517 hb)
   replace BK526 := bA (bB BK526 hb)
   replace HB := bA (bS hb)
   (try clear hb)
   refine hK.out _ _ ⟨bq BK526 0, bq BK526 1, bq BK526 2, bq BK526 3⟩ (fun hHeld => ?_)
   clear hK K
   refine bH ?_
   refine bU (i := 13) (N := some 76) ?_
   refine bU (i := 14) (N := some 77) ?_
   refine bU (i := 15) (N := some 78) ?_
   refine bU (i := 16) (N := some 4) ?_
   refine done_ (done_of HT_.out (by kernel_rfl)) ?_
   try go_wp2
   go_ret
   exact bF
  replace c31 := Bool.eq_false_iff.mpr c31
  subst c31
  rw [if_neg bn] at H
  by_cases c52 : ((t521 == 0 && (t522 == 0)) && ((t523 == 0 && (t524 == 0)))) = true
  rotate_left
  ·rw [if_neg c52] at H
   have c52b0 : ((t521 == 0 && (t522 == 0)) && ((t523 == 0 && (t524 == 0)))) = false := by simpa using c52
   clear c52
   exact absurd H (by simp)
  rw [if_pos c52] at H
  have c52b0 : ((t521 == 0 && (t522 == 0)) && ((t523 == 0 && (t524 == 0)))) = true := c52
  clear c52
  obtain rfl := Option.some.inj H
  try go_wp2_with (first | ((first | ((with_reducible refine gate_callee (f := 27) rfl ?_); refine bC (some 18) Try.func27 #[.slice A0 l0.length c0] ?_) | go_at_call 27); (with_reducible refine (poly_Bounds.calls kj2 _ _ l0 t521 t522 t523 t524 t525 _ ?side1 ?side2 A13.out).mono ?_); (case side1 => exact bQ HR0); (case side2 => exact HC0.out); rintro e w53 ⟨rfl, hb⟩; (first | refine ⟨_, rfl, ?_⟩ | skip); replace BK517 := bA (bB BK517 hb); replace HB := bA (bS hb); (try clear hb)) | ((with_reducible refine gate_dst (N := 5) rfl ?_); refine bE (N := 5) (cs := #[.int .i64 0, .int .i64 0, .int .i64 0, .int .i64 0]) (t := 44) ?_; intro gb526 hg w54 hbox hb; have BK526 := bA (hbox); have GW526 := bA (bZ hg); have GE526 := bA (bZ hg); have NB517_526 := bA (bL BK517 hg); have NB526_517 := bA (bG BK517 hg); replace BK517 := bA (bB BK517 hb); replace HB := bA (bS hb); clear hb hbox hg; have hnb55 := NB526_517.out; have hnc55 := NB517_526.out; obtain ⟨hcz56_0, hcz56_1, hcz56_2, hcz56_3, hfz56_0, hfz56_1, hfz56_2, hfz56_3⟩ := bc4 BK526) | ((first | ((with_reducible refine gate_callee (f := 28) rfl ?_); refine bC (some 22) Try.func28 #[.slice A0 l0.length c0] ?_) | go_at_call 28); (with_reducible refine (apogeeref11_Right.calls kj2 _ _ l0 false _ ?side1 ?side2 A14.out).mono ?_); (case side1 => exact Kd.C_below HR0.out bX); (case side2 => exact HC0.out); rintro e w57 ⟨rfl, hb⟩; (first | refine ⟨_, rfl, ?_⟩ | skip); replace BK517 := bA (blk_below (g := gb517) (o := .cells #[.int .i64 a1_0, .int .i64 a1_1] 41 (0, 0)) (by (repeat ((with_reducible repeat (first | refine blk_drewN ?_ _ | refine blk_drew ?_ | refine blk_alloc ?_ _)); refine blk_far ?_ NB517_526.out _)); (with_reducible repeat (first | refine blk_drewN ?_ _ | refine blk_drew ?_ | refine blk_alloc ?_ _)); exact BK517.out) hb); replace BK526 := bA (blk_below (g := gb526) (o := .cells #[.int .i64 t521, .int .i64 t522, .int .i64 t523, .int .i64 t524] 44 (0, 0)) (by (with_reducible repeat (first | refine blk_drewN ?_ _ | refine blk_drew ?_ | refine blk_alloc ?_ _)); refine blk_put (cs := #[.int .i64 t521, .int .i64 t522, .int .i64 t523, .int .i64 0]) ?_ 3 _ rfl; (with_reducible repeat (first | refine blk_drewN ?_ _ | refine blk_drew ?_ | refine blk_alloc ?_ _)); refine blk_put (cs := #[.int .i64 t521, .int .i64 t522, .int .i64 0, .int .i64 0]) ?_ 2 _ rfl; (with_reducible repeat (first | refine blk_drewN ?_ _ | refine blk_drew ?_ | refine blk_alloc ?_ _)); refine blk_put (cs := #[.int .i64 t521, .int .i64 0, .int .i64 0, .int .i64 0]) ?_ 1 _ rfl; (with_reducible repeat (first | refine blk_drewN ?_ _ | refine blk_drew ?_ | refine blk_alloc ?_ _)); refine blk_put (cs := #[.int .i64 0, .int .i64 0, .int .i64 0, .int .i64 0]) ?_ 0 _ rfl; (with_reducible repeat (first | refine blk_drewN ?_ _ | refine blk_drew ?_ | refine blk_alloc ?_ _)); exact BK526.out) hb); replace HB := bA (bS hb); (try clear hb)))
  replace BK517 := bA (blk_drew BK517.out)
  replace BK526 := bA (blk_drew BK526.out)
  replace HB := bA (below_drew1 HB.out)
  refine start_ (n := 40) (S := fun w' => w'.cell? ⟨gb517, 0, none⟩ = some (.int .i64 a1_0) ∧ w'.cell? ⟨gb517, 1, none⟩ = some (.int .i64 a1_1)) (ds := []) #[false,false,false,false,false,false,false,false,false,false,false,false,false,false,false,false,false,false,false,false,false,false,false,false,false,false,false,false,false,false,false,false,false,false,false,false,false,false,false,false] (by kernel_rfl) rfl rfl ⟨bq BK517 0, bq BK517 1⟩ (fun hHeld => ?_); refine with_tabW apogeelaw11_PolyTells.tab5 apogeelaw11_PolyTells.bits5 (fun HT_ HW_ => ?_)
  generalize w57.drew = w58 at BK517 BK526 HB hHeld ⊢
  refine bU (i := 0) (N := some 23) ?_
  refine bU (i := 2) (N := some 25) ?_
  refine one_ (i := 1) (N := some 24) #[true,true,true,false,false,false,false,false,false,false,false,false,false,false,false,false,false,false,false,false,false,false,false,false,false,false,false,false,false,false,false,false,false,false,false,false,false,false,false,false] rfl rfl (one_of HT_.out (by kernel_rfl)) (by decide) (fun K hK => ?_)
  refine goes_ Try.func29 (by kernel_rfl) rfl #[.slice A0 l0.length c0] (by rfl) rfl rfl (by (try simp only [List.map_toArray, List.map_cons, List.map_nil]); first | done | rfl | (simp only [List.length_drop, List.length_take]; rfl)) ?_
  with_reducible refine (poly_Simple.calls kj2 _ _ l0 t528 _ ?side1 ?side2 A15.out).mono ?_
  (case side1 => exact bQ HR0)
  (case side2 => exact HC0.out)
  rintro e w59 ⟨rfl, hb⟩
  refine ⟨_, rfl, ?_⟩
  replace BK517 := bA (bB BK517 hb)
  replace BK526 := bA (bB BK526 hb)
  replace HB := bA (bS hb)
  (try clear hb)
  refine hK.out _ _ ⟨bq BK517 0, bq BK517 1⟩ (fun hHeld => ?_)
  clear hK K
  refine bH ?_
  refine one_ (i := 3) (N := some 26) #[true,true,true,true,false,false,false,false,false,false,false,false,false,false,false,false,false,false,false,false,false,false,false,false,false,false,false,false,false,false,false,false,false,false,false,false,false,false,false,false] rfl rfl (one_of HT_.out (by kernel_rfl)) (by decide) (fun K hK => ?_)
  refine goes_ Try.func30 (by kernel_rfl) rfl #[.slice A0 l0.length c0] (by rfl) rfl rfl (by (try simp only [List.map_toArray, List.map_cons, List.map_nil]); first | done | rfl | (simp only [List.length_drop, List.length_take]; rfl)) ?_
  with_reducible refine (apogeeref11_Simple.calls kj2 _ _ l0 t529 _ ?side1 ?side2 A16.out).mono ?_
  (case side1 => exact bQ HR0)
  (case side2 => exact HC0.out)
  rintro e w60 ⟨rfl, hb⟩
  refine ⟨_, rfl, ?_⟩
  replace BK517 := bA (bB BK517 hb)
  replace BK526 := bA (bB BK526 hb)
  replace HB := bA (bS hb)
  (try clear hb)
  refine hK.out _ _ ⟨bq BK517 0, bq BK517 1⟩ (fun hHeld => ?_)
  clear hK K
  refine bH ?_
  refine bU (i := 4) (N := some 27) ?_
  refine bU (i := 5) (N := some 28) ?_
  refine bU (i := 6) (N := some 29) ?_
  refine bU (i := 8) (N := some 31) ?_
  refine one_ (i := 7) (N := some 30) #[true,true,true,true,true,true,true,true,true,false,false,false,false,false,false,false,false,false,false,false,false,false,false,false,false,false,false,false,false,false,false,false,false,false,false,false,false,false,false,false] rfl rfl (one_of HT_.out (by kernel_rfl)) (by decide) (fun K hK => ?_)
  refine goes_ Try.func31 (by kernel_rfl) rfl #[.slice A0 l0.length c0] (by rfl) rfl rfl (by (try simp only [List.map_toArray, List.map_cons, List.map_nil]); first | done | rfl | (simp only [List.length_drop, List.length_take]; rfl)) ?_
  with_reducible refine (poly_Right.calls kj2 _ _ l0 t530 _ ?side1 ?side2 A18.out).mono ?_
  (case side1 => exact bQ HR0)
  (case side2 => exact HC0.out)
  rintro e w61 ⟨rfl, hb⟩
  refine ⟨_, rfl, ?_⟩
  replace BK517 := bA (bB BK517 hb)
  replace BK526 := bA (bB BK526 hb)
  replace HB := bA (bS hb)
  (try clear hb)
  refine hK.out _ _ ⟨bq BK517 0, bq BK517 1⟩ (fun hHeld => ?_)
  clear hK K
  refine bH ?_
  refine bU (i := 9) (N := some 32) ?_
  refine bU (i := 10) (N := some 33) ?_
  refine bU (i := 11) (N := some 34) ?_
  refine bU (i := 12) (N := some 35) ?_
  refine bU (i := 15) (N := some 38) ?_
  refine bW (i := 13) (N := some 36) hHeld ?_
  refine bW (i := 16) (N := some 39) hHeld ?_
  refine one_ (i := 14) (N := some 37) #[true,true,true,true,true,true,true,true,true,true,true,true,true,true,true,true,true,false,false,false,false,false,false,false,false,false,false,false,false,false,false,false,false,false,false,false,false,false,false,false] rfl rfl (one_of HT_.out (by kernel_rfl)) (by decide) (fun K hK => ?_)
  refine goes_ Try.func32 (by kernel_rfl) rfl #[.slice A0 l0.length c0, .agg #[.int .i64 a1_0, .int .i64 a1_1]] (by rfl) rfl rfl (by (try simp only [List.map_toArray, List.map_cons, List.map_nil]); first | done | rfl | (simp only [List.length_drop, List.length_take]; rfl)) ?_
  with_reducible refine (poly_Side.calls kj2 _ _ l0 a1_0 a1_1 t531 _ ?side1 ?side2 A20.out).mono ?_
  (case side1 => exact bQ HR0)
  (case side2 => exact HC0.out)
  rintro e w62 ⟨rfl, hb⟩
  refine ⟨_, rfl, ?_⟩
  replace BK517 := bA (bB BK517 hb)
  replace BK526 := bA (bB BK526 hb)
  replace HB := bA (bS hb)
  (try clear hb)
  refine hK.out _ _ ⟨bq BK517 0, bq BK517 1⟩ (fun hHeld => ?_)
  clear hK K
  refine bH ?_
  refine one_ (i := 17) (N := some 40) #[true,true,true,true,true,true,true,true,true,true,true,true,true,true,true,true,true,true,false,false,false,false,false,false,false,false,false,false,false,false,false,false,false,false,false,false,false,false,false,false] rfl rfl (one_of HT_.out (by kernel_rfl)) (by decide) (fun K hK => ?_)
  refine goes_ Try.func33 (by kernel_rfl) rfl #[.slice A0 l0.length c0, .agg #[.int .i64 a1_0, .int .i64 a1_1]] (by rfl) rfl rfl (by (try simp only [List.map_toArray, List.map_cons, List.map_nil]); first | done | rfl | (simp only [List.length_drop, List.length_take]; rfl)) ?_
  with_reducible refine (apogeeref11_Side.calls kj2 _ _ l0 a1_0 a1_1 t532 _ ?side1 ?side2 A21.out).mono ?_
  (case side1 => exact bQ HR0)
  (case side2 => exact HC0.out)
  rintro e w63 ⟨rfl, hb⟩
  refine ⟨_, rfl, ?_⟩
  replace BK517 := bA (bB BK517 hb)
  replace BK526 := bA (bB BK526 hb)
  replace HB := bA (bS hb)
  (try clear hb)
  refine hK.out _ _ ⟨bq BK517 0, bq BK517 1⟩ (fun hHeld => ?_)
  clear hK K
  refine bH ?_
  refine bU (i := 18) (N := some 41) ?_
  refine bU (i := 19) (N := some 42) ?_
  refine bU (i := 20) (N := some 43) ?_
  refine bU (i := 21) (N := some 44) ?_
  refine bU (i := 23) (N := some 46) ?_
  refine one_ (i := 22) (N := some 45) #[true,true,true,true,true,true,true,true,true,true,true,true,true,true,true,true,true,true,true,true,true,true,true,true,false,false,false,false,false,false,false,false,false,false,false,false,false,false,false,false] rfl rfl (one_of HT_.out (by kernel_rfl)) (by decide) (fun K hK => ?_)
  refine goes_ Try.func34 (by kernel_rfl) rfl #[.slice A0 l0.length c0] (by rfl) rfl rfl (by (try simp only [List.map_toArray, List.map_cons, List.map_nil]); first | done | rfl | (simp only [List.length_drop, List.length_take]; rfl)) ?_
  with_reducible refine (poly_Left.calls kj2 _ _ l0 t533 _ ?side1 ?side2 A23.out).mono ?_
  (case side1 => exact bQ HR0)
  (case side2 => exact HC0.out)
  rintro e w64 ⟨rfl, hb⟩
  refine ⟨_, rfl, ?_⟩
  replace BK517 := bA (bB BK517 hb)
  replace BK526 := bA (bB BK526 hb)
  replace HB := bA (bS hb)
  (try clear hb)
  refine hK.out _ _ ⟨bq BK517 0, bq BK517 1⟩ (fun hHeld => ?_)
  clear hK K
  refine bH ?_
  refine one_ (i := 24) (N := some 47) #[true,true,true,true,true,true,true,true,true,true,true,true,true,true,true,true,true,true,true,true,true,true,true,true,true,false,false,false,false,false,false,false,false,false,false,false,false,false,false,false] rfl rfl (one_of HT_.out (by kernel_rfl)) (by decide) (fun K hK => ?_)
  refine goes_ Try.func35 (by kernel_rfl) rfl #[.slice A0 l0.length c0] (by rfl) rfl rfl (by (try simp only [List.map_toArray, List.map_cons, List.map_nil]); first | done | rfl | (simp only [List.length_drop, List.length_take]; rfl)) ?_
  with_reducible refine (apogeeref11_Left.calls kj2 _ _ l0 t534 _ ?side1 ?side2 A24.out).mono ?_
  (case side1 => exact bQ HR0)
  (case side2 => exact HC0.out)
  rintro e w65 ⟨rfl, hb⟩
  refine ⟨_, rfl, ?_⟩
  replace BK517 := bA (bB BK517 hb)
  replace BK526 := bA (bB BK526 hb)
  replace HB := bA (bS hb)
  (try clear hb)
  refine hK.out _ _ ⟨bq BK517 0, bq BK517 1⟩ (fun hHeld => ?_)
  clear hK K
  refine bH ?_
  refine bU (i := 25) (N := some 48) ?_
  refine bU (i := 26) (N := some 49) ?_
  refine bU (i := 27) (N := some 50) ?_
  refine bU (i := 28) (N := some 51) ?_
  refine bU (i := 30) (N := some 53) ?_
  refine one_ (i := 29) (N := some 52) #[true,true,true,true,true,true,true,true,true,true,true,true,true,true,true,true,true,true,true,true,true,true,true,true,true,true,true,true,true,true,true,false,false,false,false,false,false,false,false,false] rfl rfl (one_of HT_.out (by kernel_rfl)) (by decide) (fun K hK => ?_)
  refine goes_ Try.func37 (by kernel_rfl) rfl #[.slice A0 l0.length c0] (by rfl) rfl rfl (by (try simp only [List.map_toArray, List.map_cons, List.map_nil]); first | done | rfl | (simp only [List.length_drop, List.length_take]; rfl)) ?_
  with_reducible refine (poly_Back.calls kj2 _ _ l0 t535 _ ?side1 ?side2 A26.out).mono ?_
  (case side1 => exact bQ HR0)
  (case side2 => exact HC0.out)
  rintro e w66 ⟨v536, rfl, ho0, hb⟩
  refine ⟨_, rfl, ?_⟩
  have HO537 := bA (Kd.R_lower (bN ho0 BK517) bY)
  replace BK517 := bA (bB BK517 hb)
  replace BK526 := bA (bB BK526 hb)
  replace HB := bA (bS hb)
  (try clear hb)
  (try clear ho0)
  refine hK.out _ _ ⟨bq BK517 0, bq BK517 1⟩ (fun hHeld => ?_)
  clear hK K
  refine bH ?_
  refine one_ (i := 31) (N := some 54) #[true,true,true,true,true,true,true,true,true,true,true,true,true,true,true,true,true,true,true,true,true,true,true,true,true,true,true,true,true,true,true,true,false,false,false,false,false,false,false,false] rfl rfl (one_of HT_.out (by kernel_rfl)) (by decide) (fun K hK => ?_)
  refine goes_ Try.func38 (by kernel_rfl) rfl #[.slice A0 l0.length c0] (by rfl) rfl rfl (by (try simp only [List.map_toArray, List.map_cons, List.map_nil]); first | done | rfl | (simp only [List.length_drop, List.length_take]; rfl)) ?_
  with_reducible refine (apogeeref11_Back.calls kj2 _ _ l0 t538 _ ?side1 ?side2 A27.out).mono ?_
  (case side1 => exact bQ HR0)
  (case side2 => exact HC0.out)
  rintro e w67 ⟨v539, rfl, ho0, hb⟩
  refine ⟨_, rfl, ?_⟩
  have HO540 := bA (Kd.R_lower (Kd.R_newB (Kd.R_new' ho0 (Kd.R_lt (bRr HO537))) (g := gb517) (o := .cells #[.int .i64 a1_0, .int .i64 a1_1] 41 (0, 0)) (bP BK517)) bY)
  replace HO537 := bA (Kd.R_elder' (bRr HO537) (Kd.R_base ho0) hb)
  replace BK517 := bA (bB BK517 hb)
  replace BK526 := bA (bB BK526 hb)
  replace HB := bA (bS hb)
  (try clear hb)
  (try clear ho0)
  obtain ⟨Ao68, co68, eo68⟩ := Kd.R_slice HO537.out
  (first | subst eo68 | (injection eo68 with f1_ f2_ f3_; have f4_ := f1_.symm; have f5_ := f3_.symm; clear f1_ f2_ f3_; subst f4_; subst f5_))
  obtain ⟨Ao69, co69, eo69⟩ := Kd.R_slice HO540.out
  (first | subst eo69 | (injection eo69 with f1_ f2_ f3_; have f4_ := f1_.symm; have f5_ := f3_.symm; clear f1_ f2_ f3_; subst f4_; subst f5_))
  refine hK.out _ _ ⟨bq BK517 0, bq BK517 1⟩ (fun hHeld => ?_)
  clear hK K
  refine bH ?_
  refine one_ (i := 32) (N := some 55) #[true,true,true,true,true,true,true,true,true,true,true,true,true,true,true,true,true,true,true,true,true,true,true,true,true,true,true,true,true,true,true,true,true,false,false,false,false,false,false,false] rfl rfl (one_of HT_.out (by kernel_rfl)) (by decide) (fun K hK => ?_)
  refine goes_ Try.func36 (by kernel_rfl) rfl #[.slice Ao68 t535.length co68, .slice Ao69 t538.length co69] (by rfl) rfl rfl (by (try simp only [List.map_toArray, List.map_cons, List.map_nil]); first | done | rfl | (simp only [List.length_drop, List.length_take]; rfl)) ?_
  with_reducible refine (apogeeref10_Same.calls kj2 _ _ t535 _ _ t538 true _ ?side1 ?side2 ?side3 ?side4 A28.out).mono ?_
  (case side1 => repeat (first | exact (Kd.R_reads' HO537.out).2.2 | (with_reducible refine Kd.C_alloc ?_ _) | (with_reducible refine Kd.C_drewN ?_ _) | (with_reducible refine Kd.C_drew ?_)))
  (case side2 => exact (Kd.R_reads' HO537.out).2.1)
  (case side3 => repeat (first | exact (Kd.R_reads' HO540.out).2.2 | (with_reducible refine Kd.C_alloc ?_ _) | (with_reducible refine Kd.C_drewN ?_ _) | (with_reducible refine Kd.C_drew ?_)))
  (case side4 => exact (Kd.R_reads' HO540.out).2.1)
  rintro e w' ⟨rfl, ⟨nd, rfl⟩⟩
  refine ⟨_, rfl, ?_⟩
  refine hK.out _ _ ⟨bq BK517 0, bq BK517 1⟩ (fun hHeld => ?_)
  clear hK K
  refine bH ?_
  refine bU (i := 33) (N := some 56) ?_
  refine bU (i := 34) (N := some 57) ?_
  refine bU (i := 35) (N := some 58) ?_
  refine bU (i := 36) (N := some 59) ?_
  refine bU (i := 37) (N := some 60) ?_
  refine bU (i := 38) (N := some 61) ?_
  refine bU (i := 39) (N := some 62) ?_
  refine done_ (done_of HT_.out (by kernel_rfl)) ?_
  try go_wp2
  (try (rw [drewN_self w67]; generalize hq_ : World.drewN w67 _ = w67; have n0_ : Aside0 (Kd.R k41 41 w67 w.heap.size (fun k_ => some k_ ≠ (.slice Ao69 t538.length co69 : Value).ownBlock ∧ k_ ≠ gb517) (.slice Ao68 t535.length co68) t535) := ⟨by rw [← hq_]; exact (by (with_reducible repeat (first | apply Kd.R_alloc | apply Kd.R_drewN | apply Kd.R_drew)); exact Kd.R_mono HO537.out (fun _ hk => ⟨hk.2, hk.1.2⟩))⟩; have n1_ : Aside0 (Kd.R k41 41 w67 w.heap.size (fun k_ => some k_ ≠ (.slice Ao68 t535.length co68 : Value).ownBlock ∧ k_ ≠ gb517) (.slice Ao69 t538.length co69) t538) := ⟨by rw [← hq_]; exact (by (with_reducible repeat (first | apply Kd.R_alloc | apply Kd.R_drewN | apply Kd.R_drew)); exact Kd.R_mono HO540.out (fun _ hk => ⟨hk.1.2, hk.2⟩))⟩; have n2_ : Aside0 (w67.heap[gb517]? = some (.cells #[.int .i64 a1_0, .int .i64 a1_1] 41 (0, 0))) := ⟨by rw [← hq_]; exact (bP BK517)⟩; have n3_ : Aside0 (w67.heap[gb526]? = some (.cells #[.int .i64 t521, .int .i64 t522, .int .i64 t523, .int .i64 t524] 44 (0, 0))) := ⟨by rw [← hq_]; exact (bP BK526)⟩; have n4_ : Aside0 (Below w.heap.size w w67) := ⟨by rw [← hq_]; exact bX⟩; clear HO537 HO540 BK517 BK526 HB hq_; have HO537 := n0_; have HO540 := n1_; have BK517 := n2_; have BK526 := n3_; have HB := n4_; clear n0_ n1_ n2_ n3_ n4_))
  replace HO537 := bA (Kd.R_drew HO537.out)
  replace HO540 := bA (Kd.R_drew HO540.out)
  replace BK517 := bA (blk_drew BK517.out)
  replace BK526 := bA (blk_drew BK526.out)
  replace HB := bA (below_drew1 HB.out)
  refine start_ (n := 17) (S := fun w' => w'.cell? ⟨gb526, 0, none⟩ = some (.int .i64 t521) ∧ w'.cell? ⟨gb526, 1, none⟩ = some (.int .i64 t522) ∧ w'.cell? ⟨gb526, 2, none⟩ = some (.int .i64 t523) ∧ w'.cell? ⟨gb526, 3, none⟩ = some (.int .i64 t524)) (ds := []) #[false,false,false,false,false,false,false,false,false,false,false,false,false,false,false,false,false] (by kernel_rfl) rfl rfl ⟨bq BK526 0, bq BK526 1, bq BK526 2, bq BK526 3⟩ (fun hHeld => ?_); refine with_tabW apogeelaw11_PolyTells.tab7 apogeelaw11_PolyTells.bits7 (fun HT_ HW_ => ?_)
  generalize w67.drew = w70 at HO537 HO540 BK517 BK526 HB hHeld ⊢
  refine bU (i := 0) (N := some 63) ?_
  refine bU (i := 1) (N := some 64) ?_
  refine bU (i := 2) (N := some 65) ?_
  refine bU (i := 4) (N := some 67) ?_
  refine bW (i := 3) (N := some 66) hHeld ?_
  refine bU (i := 5) (N := some 68) ?_
  refine bU (i := 6) (N := some 69) ?_
  refine bU (i := 7) (N := some 70) ?_
  refine pure_ (i := 8) (N := some 71) (v := undef) (a' := ?_) #[true,true,true,true,true,true,true,true,true,false,false,false,false,false,false,false,false] rfl rfl (any_of HT_.out (by kernel_rfl)) (fun _ _ _ h => h) (Or.inr ⟨by rfl, rfl⟩) ?_ ?_
  rotate_left
  ·simp only [Act.put, List.setIfInBounds_toArray, List.set_cons_zero, List.set_cons_succ, i64_w, i32_w]
   rfl
  refine pure_ (i := 9) (N := some 72) (v := undef) (a' := ?_) #[true,true,true,true,true,true,true,true,true,true,false,false,false,false,false,false,false] rfl rfl (any_of HT_.out (by kernel_rfl)) (fun _ _ _ h => h) (Or.inr ⟨by rfl, rfl⟩) ?_ ?_
  rotate_left
  ·simp only [Act.put, List.setIfInBounds_toArray, List.set_cons_zero, List.set_cons_succ, i64_w, i32_w]
   rfl
  refine pure_ (i := 10) (N := some 73) (v := undef) (a' := ?_) #[true,true,true,true,true,true,true,true,true,true,true,false,false,false,false,false,false] rfl rfl (any_of HT_.out (by kernel_rfl)) (fun _ _ _ h => h) (Or.inr ⟨by rfl, rfl⟩) ?_ ?_
  rotate_left
  ·simp only [Act.put, List.setIfInBounds_toArray, List.set_cons_zero, List.set_cons_succ, i64_w, i32_w]
   rfl
  refine pure_ (i := 11) (N := some 74) (v := undef) (a' := ?_) #[true,true,true,true,true,true,true,true,true,true,true,true,false,false,false,false,false] rfl rfl (any_of HT_.out (by kernel_rfl)) (fun _ _ _ h => h) (Or.inr ⟨by rfl, rfl⟩) ?_ ?_
  rotate_left
  ·simp only [Act.put, List.setIfInBounds_toArray, List.set_cons_zero, List.set_cons_succ, i64_w, i32_w]
   rfl
  refine pure_ (i := 12) (N := some 75) (v := undef) (a' := ?_) #[true,true,true,true,true,true,true,true,true,true,true,true,true,false,false,false,false] rfl rfl (any_of HT_.out (by kernel_rfl)) (fun _ _ _ h => h) (Or.inr ⟨by rfl, rfl⟩) ?_ ?_
  rotate_left
  ·simp only [Act.put, List.setIfInBounds_toArray, List.set_cons_zero, List.set_cons_succ, i64_w, i32_w]
   rfl
  refine pure_ (i := 13) (N := some 76) (v := undef) (a' := ?_) #[true,true,true,true,true,true,true,true,true,true,true,true,true,true,false,false,false] rfl rfl (any_of HT_.out (by kernel_rfl)) (fun _ _ _ h => h) (Or.inr ⟨by rfl, rfl⟩) ?_ ?_
  rotate_left
  ·simp only [Act.put, List.setIfInBounds_toArray, List.set_cons_zero, List.set_cons_succ, i64_w, i32_w]
   rfl
  refine pure_ (i := 14) (N := some 77) (v := undef) (a' := ?_) #[true,true,true,true,true,true,true,true,true,true,true,true,true,true,true,false,false] rfl rfl (any_of HT_.out (by kernel_rfl)) (fun _ _ _ h => h) (Or.inr ⟨by rfl, rfl⟩) ?_ ?_
  rotate_left
  ·simp only [Act.put, List.setIfInBounds_toArray, List.set_cons_zero, List.set_cons_succ, i64_w, i32_w]
   rfl
  refine bU (i := 15) (N := some 78) ?_
  refine bU (i := 16) (N := some 4) ?_
  refine done_ (done_of HT_.out (by kernel_rfl)) ?_
  try go_wp2
  go_ret
  exact bF
end Go.Proofs.Ytjmibjmlihmglaa.G
