-- Written by a program of this session out of the translation; Lean checks it.
import Derived.Test.YtjmibjmlihmglaaGx0
import Derived.Test.YtjmibjmlihmglaaGx1
import Derived.Test.YtjmibjmlihmglaaGx4
import Derived.Test.YtjmibjmlihmglaaGx6
namespace Go.Proofs.Ytjmibjmlihmglaa.G
open Go.RowKit Go.Proofs.YtjmibjmlihmglaaW.PrintWords Go.Proofs.YtjmibjmlihmglaaW.PrintLast Go.Proofs.YtjmibjmlihmglaaW.PrintMore
attribute [local go_sem] max2_int min2_int max_two min_two max_three min_three max_four min_four   -- for this text's walks alone
set_option linter.unusedVariables false
set_option linter.unusedSimpArgs false

attribute [local go_sem high] eqA41
/-! ### poly_Simple: function 29 -/
mutual
def poly_Simple.j0 : Nat → List (S41) → Int → Bool → Option (Bool)
 | 0, _, _, _ => none
 | k + 1, x0, x3, x17 => if x17 = true then (some false) else (poly_Simple.l0 k x0 x3 0)
def poly_Simple.l0 : Nat → List (S41) → Int → Int → Option (Bool)
 | 0, _, _, _ => none
 | k + 1, x0, x18, x19 => if x19 < x18 then (poly_Simple.l1 k x0 x19 x18 x19 x19 0) else (some true)
def poly_Simple.l1 : Nat → List (S41) → Int → Int → Int → Int → Int → Option (Bool)
 | 0, _, _, _, _, _, _ => none
 | k + 1, x0, x4, x18, x19, x22, x23 => if x23 < x22 then (if 0 ≤ x4 then (if x4 < (x0.length : Int) then (if 0 ≤ x23 then (if x23 < (x0.length : Int) then (if (((rd_T41 x0 x4).f0) == ((rd_T41 x0 x23).f0) && (((rd_T41 x0 x4).f1) == ((rd_T41 x0 x23).f1))) = true then (some false) else ((poly_apart.f k x0 x23 x4).bind fun t229 => (if t229 = true then (poly_Simple.l1 k x0 x4 x18 x19 x22 (wrap64 (x23 + 1))) else (some false)))) else (none)) else (none)) else (none)) else (none)) else (poly_Simple.l0 k x0 x18 (wrap64 (x19 + 1)))
end
def poly_Simple.f (k : Nat) (l0 : List (S41)) : Option (Bool) := if (l0.length : Int) < 3 then (poly_Simple.j0 k l0 (l0.length : Int) true) else (if (l0.length : Int) > 8 then (poly_Simple.j0 k l0 (l0.length : Int) true) else ((slices_ContainsFunc_Point_F_poly_Simple_1.f k l0).bind fun t226 => (poly_Simple.j0 k l0 (l0.length : Int) t226)))
theorem poly_Simple.mono_l : ∀ k, (∀ y0 y1 y2, LeO (poly_Simple.j0 k y0 y1 y2) (poly_Simple.j0 (k + 1) y0 y1 y2)) ∧ (∀ y0 y1 y2, LeO (poly_Simple.l0 k y0 y1 y2) (poly_Simple.l0 (k + 1) y0 y1 y2)) ∧ (∀ y0 y1 y2 y3 y4 y5, LeO (poly_Simple.l1 k y0 y1 y2 y3 y4 y5) (poly_Simple.l1 (k + 1) y0 y1 y2 y3 y4 y5))
 | 0 => ⟨fun _ _ _ r h => by simp [poly_Simple.j0] at h, fun _ _ _ r h => by simp [poly_Simple.l0] at h, fun _ _ _ _ _ _ r h => by simp [poly_Simple.l1] at h⟩
 | k + 1 => by
  obtain ⟨ih0, ih1, ih2⟩ := poly_Simple.mono_l k
  refine ⟨?_, ?_, ?_⟩
  ·intro y0 y1 y2
   unfold poly_Simple.j0
   have m0_ := @poly_apart.mono
   have m1_ := @slices_ContainsFunc_Point_F_poly_Simple_1.mono
   exact bMo
  ·intro y0 y1 y2
   unfold poly_Simple.l0
   have m0_ := @poly_apart.mono
   have m1_ := @slices_ContainsFunc_Point_F_poly_Simple_1.mono
   exact bMo
  ·intro y0 y1 y2 y3 y4 y5
   unfold poly_Simple.l1
   have m0_ := @poly_apart.mono
   have m1_ := @slices_ContainsFunc_Point_F_poly_Simple_1.mono
   exact bMo
theorem poly_Simple.mono : ∀ a0 k, LeO (poly_Simple.f k a0) (poly_Simple.f (k + 1) a0) := by
 intro a0 k
 obtain ⟨ih0, ih1, ih2⟩ := poly_Simple.mono_l k
 unfold poly_Simple.f
 have m0_ := @poly_apart.mono
 have m1_ := @slices_ContainsFunc_Point_F_poly_Simple_1.mono
 exact bMo
def poly_Simple.T10 : Bool × List (List Nat × List Nat) := (true, [([], []), ([], []), ([0, 1], [0, 1]), ([2], [2]), ([], []), ([], []), ([4, 5], [4, 5]), ([6], [6]), ([3, 7], [3, 7]), ([8], [8]), ([9], [9]), ([9], [9]), ([9], [9]), ([10, 11, 12, 9, 9], [9, 10, 11, 12]), ([13, 9], [9, 13]), ([9, 14], [9, 14])])
def poly_Simple.B10 : List Nat := [0, 0, 3, 7, 0, 0, 48, 112, 255, 511, 1023, 1023, 1023, 8191, 16383, 32767]
theorem poly_Simple.tab10 : rtab .any (opsOf Try.f29 10) = poly_Simple.T10 := by kernel_rfl
theorem poly_Simple.bits10 : waitsOk poly_Simple.T10.2 poly_Simple.B10 = true := by kernel_rfl
set_option maxHeartbeats 8000000 in
set_option maxRecDepth 100000 in
theorem poly_Simple.calls (k : Nat) (A0 : Option Addr) (c0 : Nat) (l0 : List (S41)) (r : Bool) (w : World) (hr0 : Kd.C k41 w A0 l0.length l0) (hc0 : l0.length ≤ c0) (h : poly_Simple.f k l0 = some r) :
  Calls Try.prog 29 #[.slice A0 l0.length c0] w fun e w' => e = .returned (.bool r) ∧ Below w.heap.size w w' := by
 have hu41 := Try.underlying41
 have HR0 := bA hr0
 have HC0 := bA hc0
 clear hr0 hc0
 have HB := bA (Below.refl w.heap.size w)
 have H : (if (l0.length : Int) < 3 then (poly_Simple.j0 k l0 (l0.length : Int) true) else (if (l0.length : Int) > 8 then (poly_Simple.j0 k l0 (l0.length : Int) true) else ((slices_ContainsFunc_Point_F_poly_Simple_1.f k l0).bind fun t226 => (poly_Simple.j0 k l0 (l0.length : Int) t226)))) = some r := h
 clear h
 have HC2 := bA H
 clear H
 go_enter Try.func29, Try.ntmps29
 go_upto_region 2 with (fail)
 go_cut [17] (fun v17 wc => ∃ (kq : Nat) (x17_1 : Bool), v17 = .bool x17_1 ∧ Aside0 (poly_Simple.j0 kq l0 (l0.length : Int) x17_1 = some r) ∧ Aside0 (kq ≤ k) ∧ Aside0 (Below w.heap.size w wc))
 case first =>
  have H := HC2.out
  clear HC2
  by_cases c3 : (l0.length : Int) < 3
  rw [if_pos c3] at H
  have c3b0 : decide ((l0.length : Int) < 3) = true := decide_eq_true c3
  have c3b1 : decide (l0.length < 3) = true := decide_eq_true (by omega)
  clear c3
  (first | rw [c3b0] | (simp only [i64_w, i32_w]; rw [c3b0]) | skip)
  have H' := bA H
  clear H
  rotate_left
  rw [if_neg c3] at H
  have c3b0 : decide ((l0.length : Int) < 3) = false := decide_eq_false c3
  have c3b1 : decide (l0.length < 3) = false := decide_eq_false (by omega)
  clear c3
  (first | rw [c3b0] | (simp only [i64_w, i32_w]; rw [c3b0]) | skip)
  by_cases c4 : (l0.length : Int) > 8
  rw [if_pos c4] at H
  have c4b0 : decide (8 < (l0.length : Int)) = true := decide_eq_true c4
  have c4b1 : decide (8 < l0.length) = true := decide_eq_true (by omega)
  clear c4
  have H' := bA H
  clear H
  rotate_left
  rw [if_neg c4] at H
  have c4b0 : decide (8 < (l0.length : Int)) = false := decide_eq_false c4
  have c4b1 : decide (8 < l0.length) = false := decide_eq_false (by omega)
  clear c4
  replace H := Option.bind_eq_some_iff.mp H
  obtain ⟨t226, A50, H⟩ := H
  have A5 := bA A50
  clear A50
  have H' := bA H
  clear H
  rotate_left
  all_goals go_wp2_with (first | (go_at_call 65; (with_reducible refine (slices_ContainsFunc_Point_F_poly_Simple_1.calls k _ _ l0  t226 _ ?side1 ?side2 A5.out).mono ?_); (case side1 => exact bQ HR0); (case side2 => exact HC0.out); rintro e wz0 ⟨rfl, hb⟩; replace HB := bA (bS hb); (try clear hb)))
  ·go_meet
   case rel => exact ⟨_, (true), bs, H', ⟨by first | omega | exact Nat.le_refl _⟩, ⟨bX⟩⟩
  ·go_meet
   case rel => exact ⟨_, (true), bs, H', ⟨by first | omega | exact Nat.le_refl _⟩, ⟨bX⟩⟩
  go_meet
  case rel => exact ⟨_, (t226), bs, H', ⟨by first | omega | exact Nat.le_refl _⟩, ⟨bX⟩⟩
 clear HC2
 try clear c2
 try clear p2
 try clear c3
 try clear c3b0
 try clear c3b1
 try clear c4
 try clear c4b0
 try clear c4b1
 obtain ⟨kq, x17_1, rfl, HA, HJ1, HB⟩ := hcut
 cases kq with
 | zero => exact absurd HA.out (by simp [poly_Simple.j0])
 | succ kj1 =>
  have H := HA.out
  clear HA
  simp only [poly_Simple.j0] at H
  by_cases c7 : x17_1 = true
  ·subst c7
   rw [if_pos rfl] at H
   obtain rfl := Option.some.inj H
   go_wp2
   go_ret
   exact bF
  replace c7 := Bool.eq_false_iff.mpr c7
  subst c7
  rw [if_neg bn] at H
  have H' := bA H
  clear H
  go_wp2
  go_loopg [19] kj1 (fun kq v19 w' => ∃ (x19_2 : Int), v19 = .int .i64 x19_2 ∧ Aside0 (poly_Simple.l0 kq l0 (l0.length : Int) x19_2 = some r) ∧ Aside0 (kq ≤ kj1) ∧ Aside0 (Below w.heap.size w w'))
  case atStart => exact ⟨(0), bs, H', ⟨Nat.le_refl _⟩, ⟨bX⟩⟩
  clear H'
  try clear c2
  try clear p2
  try clear c3
  try clear c3b0
  try clear c3b1
  try clear c4
  try clear c4b0
  try clear c4b1
  try clear c7
  try clear p2
  obtain ⟨x19_2, rfl, HA, HK2, HB⟩ := hrel
  cases gk with
  | zero => exact absurd HA.out (by simp [poly_Simple.l0])
  | succ k2 =>
   have H := HA.out
   clear HA
   simp only [poly_Simple.l0] at H
   by_cases c8 : x19_2 < (l0.length : Int)
   rotate_left
   ·rw [if_neg c8] at H
    have c8b0 : decide (x19_2 < (l0.length : Int)) = false := decide_eq_false c8
    clear c8
    obtain rfl := Option.some.inj H
    go_wp2
    go_ret
    exact bF
   rw [if_pos c8] at H
   have c8b0 : decide (x19_2 < (l0.length : Int)) = true := decide_eq_true c8
   clear c8
   have H' := bA H
   clear H
   go_wp2
   go_loopg [23] k2 (fun kq v23 w' => ∃ (x23_3 : Int), v23 = .int .i64 x23_3 ∧ Aside0 (poly_Simple.l1 kq l0 x19_2 (l0.length : Int) x19_2 x19_2 x23_3 = some r) ∧ Aside0 (kq ≤ k2) ∧ Aside0 (Below w.heap.size w w'))
   case atStart => exact ⟨(0), bs, H', ⟨Nat.le_refl _⟩, ⟨bX⟩⟩
   clear H'
   try clear c2
   try clear p2
   try clear c3
   try clear c3b0
   try clear c3b1
   try clear c4
   try clear c4b0
   try clear c4b1
   try clear c7
   try clear c8
   try clear c8b0
   try clear p2
   obtain ⟨x23_3, rfl, HA, HK3, HB⟩ := hrel
   cases gk with
   | zero => exact absurd HA.out (by simp [poly_Simple.l1])
   | succ k3 =>
    have H := HA.out
    clear HA
    simp only [poly_Simple.l1] at H
    by_cases c9 : x23_3 < x19_2
    rotate_left
    ·rw [if_neg c9] at H
     have c9b0 : decide (x23_3 < x19_2) = false := decide_eq_false c9
     clear c9
     have H' := bA H
     clear H
     go_wp2
     go_roundg k3
     case measure => have := HJ1.out; have := HK2.out; have := HK3.out; omega
     case rel => exact ⟨(wrap64 (x19_2 + 1)), bs, H', ⟨by have := HJ1.out; have := HK2.out; have := HK3.out; omega⟩, ⟨bX⟩⟩
    rw [if_pos c9] at H
    have c9b0 : decide (x23_3 < x19_2) = true := decide_eq_true c9
    clear c9
    by_cases c10 : 0 ≤ x19_2
    rotate_left
    ·rw [if_neg c10] at H
     exact absurd H (by simp)
    rw [if_pos c10] at H
    have c10b0 : decide (0 ≤ x19_2) = true := decide_eq_true c10
    clear c10
    by_cases c11 : x19_2 < (l0.length : Int)
    rotate_left
    ·rw [if_neg c11] at H
     exact absurd H (by simp)
    rw [if_pos c11] at H
    have c11b0 : decide (x19_2 < (l0.length : Int)) = true := decide_eq_true c11
    clear c11
    by_cases c12 : 0 ≤ x23_3
    rotate_left
    ·rw [if_neg c12] at H
     exact absurd H (by simp)
    rw [if_pos c12] at H
    have c12b0 : decide (0 ≤ x23_3) = true := decide_eq_true c12
    clear c12
    by_cases c13 : x23_3 < (l0.length : Int)
    rotate_left
    ·rw [if_neg c13] at H
     exact absurd H (by simp)
    rw [if_pos c13] at H
    have c13b0 : decide (x23_3 < (l0.length : Int)) = true := decide_eq_true c13
    clear c13
    by_cases c14 : (((rd_T41 l0 x19_2).f0) == ((rd_T41 l0 x23_3).f0) && (((rd_T41 l0 x19_2).f1) == ((rd_T41 l0 x23_3).f1))) = true
    ·rw [if_pos c14] at H
     have c14b0 : (((rd_T41 l0 x19_2).f0) == ((rd_T41 l0 x23_3).f0) && (((rd_T41 l0 x19_2).f1) == ((rd_T41 l0 x23_3).f1))) = true := c14
     (try (have c14b1 : decide (((rd_T41 l0 x19_2).f0) = ((rd_T41 l0 x23_3).f0) && (((rd_T41 l0 x19_2).f1) == ((rd_T41 l0 x23_3).f1))) = true := by simpa using c14))
     (try (have c14b2 : (((rd_T41 l0 x19_2).f0) == ((rd_T41 l0 x23_3).f0) && (((rd_T41 l0 x19_2).f1) == ((rd_T41 l0 x23_3).f1))) = true := by simpa using c14))
     clear c14
     obtain rfl := Option.some.inj H
     try go_wp2
     replace HB := bA (below_drew1 HB.out)
     have p227 : 0 ≤ (x19_2 : Int) := bo
     have q227 : x19_2 < (l0.length : Int) := bo
     obtain ⟨ad227, e227, hx227_0, hx227_1⟩ := at_T41 HR0.out x19_2 p227 q227
     have hw227_1 := hx227_1
     have hw227_0 := hx227_0
     cases e227
     replace hx227_0 := bK hx227_0
     replace hx227_1 := bK hx227_1
     replace p227 := eq_true p227
     replace q227 := eq_true q227
     have p228 : 0 ≤ (x23_3 : Int) := bo
     have q228 : x23_3 < (l0.length : Int) := bo
     obtain ⟨ad228, e228, hx228_0, hx228_1⟩ := at_T41 HR0.out x23_3 p228 q228
     have hw228_1 := hx228_1
     have hw228_0 := hx228_0
     obtain rfl : ad227 = ad228 := (by injection e228)
     replace hx228_0 := bK hx228_0
     replace hx228_1 := bK hx228_1
     replace p228 := eq_true p228
     replace q228 := eq_true q228
     refine start_ (n := 16) (S := fun w' => w'.cell? (ad227.add ((x19_2).toNat * 2)) = some (.int .i64 ((rd_T41 l0 x19_2).f0)) ∧ w'.cell? ⟨(ad227.add ((x19_2).toNat * 2)).block, (ad227.add ((x19_2).toNat * 2)).off + 1, none⟩ = some (.int .i64 ((rd_T41 l0 x19_2).f1)) ∧ w'.cell? (ad227.add ((x23_3).toNat * 2)) = some (.int .i64 ((rd_T41 l0 x23_3).f0)) ∧ w'.cell? ⟨(ad227.add ((x23_3).toNat * 2)).block, (ad227.add ((x23_3).toNat * 2)).off + 1, none⟩ = some (.int .i64 ((rd_T41 l0 x23_3).f1))) (ds := []) #[false,false,false,false,false,false,false,false,false,false,false,false,false,false,false,false] (by kernel_rfl) rfl rfl ⟨(bK hw227_0), (bK hw227_1), (bK hw228_0), (bK hw228_1)⟩ (fun hHeld => ?_); refine with_tabW poly_Simple.tab10 poly_Simple.bits10 (fun HT_ HW_ => ?_)
     generalize wr.drew = w15 at HB hx227_0 hx227_1 hx228_0 hx228_1 hHeld ⊢
     refine bU (i := 0) (N := some 26) ?_
     refine bU (i := 1) (N := some 27) ?_
     refine bU (i := 2) (N := some 28) ?_
     refine bU (i := 4) (N := some 30) ?_
     refine bU (i := 5) (N := some 31) ?_
     refine bU (i := 6) (N := some 32) ?_
     refine bW (i := 3) (N := some 29) hHeld ?_
     refine bW (i := 7) (N := some 33) hHeld ?_
     refine bU (i := 8) (N := some 34) ?_
     refine bU (i := 9) (N := some 35) ?_
     refine pure_ (i := 10) (N := some 36) (v := undef) (a' := ?_) #[true,true,true,true,true,true,true,true,true,true,true,false,false,false,false,false] rfl rfl (any_of HT_.out (by kernel_rfl)) (fun _ _ _ h => h) (Or.inr ⟨by rfl, rfl⟩) ?_ ?_
     rotate_left
     ·simp only [Act.put, List.setIfInBounds_toArray, List.set_cons_zero, List.set_cons_succ, i64_w, i32_w]
      rfl
     refine pure_ (i := 11) (N := some 37) (v := undef) (a' := ?_) #[true,true,true,true,true,true,true,true,true,true,true,true,false,false,false,false] rfl rfl (any_of HT_.out (by kernel_rfl)) (fun _ _ _ h => h) (Or.inr ⟨by rfl, rfl⟩) ?_ ?_
     rotate_left
     ·simp only [Act.put, List.setIfInBounds_toArray, List.set_cons_zero, List.set_cons_succ, i64_w, i32_w]
      rfl
     refine pure_ (i := 12) (N := some 38) (v := undef) (a' := ?_) #[true,true,true,true,true,true,true,true,true,true,true,true,true,false,false,false] rfl rfl (any_of HT_.out (by kernel_rfl)) (fun _ _ _ h => h) (Or.inr ⟨by rfl, rfl⟩) ?_ ?_
     rotate_left
     ·simp only [Act.put, List.setIfInBounds_toArray, List.set_cons_zero, List.set_cons_succ, i64_w, i32_w]
      rfl
     refine pure_ (i := 13) (N := some 39) (v := undef) (a' := ?_) #[true,true,true,true,true,true,true,true,true,true,true,true,true,true,false,false] rfl rfl (any_of HT_.out (by kernel_rfl)) (fun _ _ _ h => h) (Or.inr ⟨by rfl, rfl⟩) ?_ ?_
     rotate_left
     ·simp only [Act.put, List.setIfInBounds_toArray, List.set_cons_zero, List.set_cons_succ, i64_w, i32_w]
      rfl
     refine pure_ (i := 14) (N := some 40) (v := undef) (a' := ?_) #[true,true,true,true,true,true,true,true,true,true,true,true,true,true,true,false] rfl rfl (any_of HT_.out (by kernel_rfl)) (fun _ _ _ h => h) (Or.inr ⟨by rfl, rfl⟩) ?_ ?_
     rotate_left
     ·simp only [Act.put, List.setIfInBounds_toArray, List.set_cons_zero, List.set_cons_succ, i64_w, i32_w]
      rfl
     refine bU (i := 15) (N := some 41) ?_
     refine done_ (done_of HT_.out (by kernel_rfl)) ?_
     try go_wp2
     go_ret
     exact bF
    rw [if_neg c14] at H
    have c14b0 : (((rd_T41 l0 x19_2).f0) == ((rd_T41 l0 x23_3).f0) && (((rd_T41 l0 x19_2).f1) == ((rd_T41 l0 x23_3).f1))) = false := by simpa using c14
    (try (have c14b1 : decide (((rd_T41 l0 x19_2).f0) = ((rd_T41 l0 x23_3).f0) && (((rd_T41 l0 x19_2).f1) == ((rd_T41 l0 x23_3).f1))) = false := by simpa using c14))
    (try (have c14b2 : (((rd_T41 l0 x19_2).f0) == ((rd_T41 l0 x23_3).f0) && (((rd_T41 l0 x19_2).f1) == ((rd_T41 l0 x23_3).f1))) = false := by simpa using c14))
    (try (have c14b3 : ¬ (((rd_T41 l0 x19_2).f0) = ((rd_T41 l0 x23_3).f0) && (((rd_T41 l0 x19_2).f1) == ((rd_T41 l0 x23_3).f1))) := by simpa using c14))
    clear c14
    replace H := Option.bind_eq_some_iff.mp H
    obtain ⟨t229, A160, H⟩ := H
    have A16 := bA A160
    clear A160
    by_cases c17 : t229 = true
    ·subst c17
     rw [if_pos rfl] at H
     have H' := bA H
     clear H
     try go_wp2
     replace HB := bA (below_drew1 HB.out)
     have p227 : 0 ≤ (x19_2 : Int) := bo
     have q227 : x19_2 < (l0.length : Int) := bo
     obtain ⟨ad227, e227, hx227_0, hx227_1⟩ := at_T41 HR0.out x19_2 p227 q227
     have hw227_1 := hx227_1
     have hw227_0 := hx227_0
     cases e227
     replace hx227_0 := bK hx227_0
     replace hx227_1 := bK hx227_1
     replace p227 := eq_true p227
     replace q227 := eq_true q227
     have p228 : 0 ≤ (x23_3 : Int) := bo
     have q228 : x23_3 < (l0.length : Int) := bo
     obtain ⟨ad228, e228, hx228_0, hx228_1⟩ := at_T41 HR0.out x23_3 p228 q228
     have hw228_1 := hx228_1
     have hw228_0 := hx228_0
     obtain rfl : ad227 = ad228 := (by injection e228)
     replace hx228_0 := bK hx228_0
     replace hx228_1 := bK hx228_1
     replace p228 := eq_true p228
     replace q228 := eq_true q228
     refine start_ (n := 16) (S := fun w' => w'.cell? (ad227.add ((x19_2).toNat * 2)) = some (.int .i64 ((rd_T41 l0 x19_2).f0)) ∧ w'.cell? ⟨(ad227.add ((x19_2).toNat * 2)).block, (ad227.add ((x19_2).toNat * 2)).off + 1, none⟩ = some (.int .i64 ((rd_T41 l0 x19_2).f1)) ∧ w'.cell? (ad227.add ((x23_3).toNat * 2)) = some (.int .i64 ((rd_T41 l0 x23_3).f0)) ∧ w'.cell? ⟨(ad227.add ((x23_3).toNat * 2)).block, (ad227.add ((x23_3).toNat * 2)).off + 1, none⟩ = some (.int .i64 ((rd_T41 l0 x23_3).f1))) (ds := []) #[false,false,false,false,false,false,false,false,false,false,false,false,false,false,false,false] (by kernel_rfl) rfl rfl ⟨(bK hw227_0), (bK hw227_1), (bK hw228_0), (bK hw228_1)⟩ (fun hHeld => ?_); refine with_tabW poly_Simple.tab10 poly_Simple.bits10 (fun HT_ HW_ => ?_)
     generalize wr.drew = w18 at HB hx227_0 hx227_1 hx228_0 hx228_1 hHeld ⊢
     refine bU (i := 0) (N := some 26) ?_
     refine bU (i := 1) (N := some 27) ?_
     refine bU (i := 2) (N := some 28) ?_
     refine bU (i := 4) (N := some 30) ?_
     refine bU (i := 5) (N := some 31) ?_
     refine bU (i := 6) (N := some 32) ?_
     refine bW (i := 3) (N := some 29) hHeld ?_
     refine bW (i := 7) (N := some 33) hHeld ?_
     refine bU (i := 8) (N := some 34) ?_
     refine bU (i := 9) (N := some 35) ?_
     refine bU (i := 10) (N := some 36) ?_
     refine bU (i := 11) (N := some 37) ?_
     refine bU (i := 12) (N := some 38) ?_
     refine one_ (i := 13) (N := some 39) #[true,true,true,true,true,true,true,true,true,true,true,true,true,true,false,false] rfl rfl (one_of HT_.out (by kernel_rfl)) (by decide) (fun K hK => ?_)
     refine goes_ Try.func68 (by kernel_rfl) rfl #[.slice (some ad227) l0.length c0, .int .i64 x23_3, .int .i64 x19_2] (by rfl) rfl rfl (by (try simp only [List.map_toArray, List.map_cons, List.map_nil]); first | done | rfl | (simp only [List.length_drop, List.length_take]; rfl)) ?_
     with_reducible refine (poly_apart.calls k3 _ _ l0 x23_3 x19_2 true _ ?side1 ?side2 A16.out).mono ?_
     (case side1 => exact bQ HR0)
     (case side2 => exact HC0.out)
     rintro e w19 ⟨rfl, hb⟩
     refine ⟨_, rfl, ?_⟩
     replace HB := bA (bS hb)
     (try clear hb)
     refine hK.out _ _ ⟨(bK hw227_0), (bK hw227_1), (bK hw228_0), (bK hw228_1)⟩ (fun hHeld => ?_)
     clear hK K
     refine bI 39 ?_
     refine bU (i := 14) (N := some 40) ?_
     refine bU (i := 15) (N := some 41) ?_
     refine done_ (done_of HT_.out (by kernel_rfl)) ?_
     try go_wp2
     go_roundg k3
     case measure => have := HJ1.out; have := HK2.out; have := HK3.out; omega
     case rel => exact ⟨(wrap64 (x23_3 + 1)), bs, H', ⟨by have := HJ1.out; have := HK2.out; have := HK3.out; omega⟩, ⟨bX⟩⟩
    replace c17 := Bool.eq_false_iff.mpr c17
    subst c17
    rw [if_neg bn] at H
    obtain rfl := Option.some.inj H
    try go_wp2
    replace HB := bA (below_drew1 HB.out)
    have p227 : 0 ≤ (x19_2 : Int) := bo
    have q227 : x19_2 < (l0.length : Int) := bo
    obtain ⟨ad227, e227, hx227_0, hx227_1⟩ := at_T41 HR0.out x19_2 p227 q227
    have hw227_1 := hx227_1
    have hw227_0 := hx227_0
    cases e227
    replace hx227_0 := bK hx227_0
    replace hx227_1 := bK hx227_1
    replace p227 := eq_true p227
    replace q227 := eq_true q227
    have p228 : 0 ≤ (x23_3 : Int) := bo
    have q228 : x23_3 < (l0.length : Int) := bo
    obtain ⟨ad228, e228, hx228_0, hx228_1⟩ := at_T41 HR0.out x23_3 p228 q228
    have hw228_1 := hx228_1
    have hw228_0 := hx228_0
    obtain rfl : ad227 = ad228 := (by injection e228)
    replace hx228_0 := bK hx228_0
    replace hx228_1 := bK hx228_1
    replace p228 := eq_true p228
    replace q228 := eq_true q228
    refine start_ (n := 16) (S := fun w' => w'.cell? (ad227.add ((x19_2).toNat * 2)) = some (.int .i64 ((rd_T41 l0 x19_2).f0)) ∧ w'.cell? ⟨(ad227.add ((x19_2).toNat * 2)).block, (ad227.add ((x19_2).toNat * 2)).off + 1, none⟩ = some (.int .i64 ((rd_T41 l0 x19_2).f1)) ∧ w'.cell? (ad227.add ((x23_3).toNat * 2)) = some (.int .i64 ((rd_T41 l0 x23_3).f0)) ∧ w'.cell? ⟨(ad227.add ((x23_3).toNat * 2)).block, (ad227.add ((x23_3).toNat * 2)).off + 1, none⟩ = some (.int .i64 ((rd_T41 l0 x23_3).f1))) (ds := []) #[false,false,false,false,false,false,false,false,false,false,false,false,false,false,false,false] (by kernel_rfl) rfl rfl ⟨(bK hw227_0), (bK hw227_1), (bK hw228_0), (bK hw228_1)⟩ (fun hHeld => ?_); refine with_tabW poly_Simple.tab10 poly_Simple.bits10 (fun HT_ HW_ => ?_)
    generalize wr.drew = w20 at HB hx227_0 hx227_1 hx228_0 hx228_1 hHeld ⊢
    refine bU (i := 0) (N := some 26) ?_
    refine bU (i := 1) (N := some 27) ?_
    refine bU (i := 2) (N := some 28) ?_
    refine bU (i := 4) (N := some 30) ?_
    refine bU (i := 5) (N := some 31) ?_
    refine bU (i := 6) (N := some 32) ?_
    refine bW (i := 3) (N := some 29) hHeld ?_
    refine bW (i := 7) (N := some 33) hHeld ?_
    refine bU (i := 8) (N := some 34) ?_
    refine bU (i := 9) (N := some 35) ?_
    refine bU (i := 10) (N := some 36) ?_
    refine bU (i := 11) (N := some 37) ?_
    refine bU (i := 12) (N := some 38) ?_
    refine one_ (i := 13) (N := some 39) #[true,true,true,true,true,true,true,true,true,true,true,true,true,true,false,false] rfl rfl (one_of HT_.out (by kernel_rfl)) (by decide) (fun K hK => ?_)
    refine goes_ Try.func68 (by kernel_rfl) rfl #[.slice (some ad227) l0.length c0, .int .i64 x23_3, .int .i64 x19_2] (by rfl) rfl rfl (by (try simp only [List.map_toArray, List.map_cons, List.map_nil]); first | done | rfl | (simp only [List.length_drop, List.length_take]; rfl)) ?_
    with_reducible refine (poly_apart.calls k3 _ _ l0 x23_3 x19_2 false _ ?side1 ?side2 A16.out).mono ?_
    (case side1 => exact bQ HR0)
    (case side2 => exact HC0.out)
    rintro e w21 ⟨rfl, hb⟩
    refine ⟨_, rfl, ?_⟩
    replace HB := bA (bS hb)
    (try clear hb)
    refine hK.out _ _ ⟨(bK hw227_0), (bK hw227_1), (bK hw228_0), (bK hw228_1)⟩ (fun hHeld => ?_)
    clear hK K
    refine bI 39 ?_
    refine bU (i := 14) (N := some 40) ?_
    refine bU (i := 15) (N := some 41) ?_
    refine done_ (done_of HT_.out (by kernel_rfl)) ?_
    try go_wp2
    go_ret
    exact bF
/-! ### poly_far: function 72 -/
def poly_far.f (a0_0 : Int) (a0_1 : Int) : Option (Bool) := some (decide ((mx (mx (mx a0_0 (wrap64 (-a0_0))) a0_1) (wrap64 (-a0_1))) > 1073741824))
set_option maxHeartbeats 8000000 in
set_option maxRecDepth 100000 in
theorem poly_far.calls (a0_0 : Int) (a0_1 : Int) (r : Bool) (w : World) (h : poly_far.f a0_0 a0_1 = some r) :
  Calls Try.prog 72 #[.agg #[.int .i64 a0_0, .int .i64 a0_1]] w fun e w' => e = .returned (.bool r) ∧ Below w.heap.size w w' := by
 have hu41 := Try.underlying41
 have HB := bA (Below.refl w.heap.size w)
 have H : (some (decide ((mx (mx (mx a0_0 (wrap64 (-a0_0))) a0_1) (wrap64 (-a0_1))) > 1073741824))) = some r := h
 clear h
 obtain ⟨ji2, hji2⟩ : ∃ j_ : Int, (mx a0_0 (wrap64 (-a0_0))) = j_ := ⟨_, rfl⟩
 replace H : (some (decide ((mx (mx (ji2) a0_1) (wrap64 (-a0_1))) > 1073741824))) = some r := by first | (rw [hji2] at H; exact H) | (simp only [hji2] at H ⊢; exact H)
 have hji2_ : (if a0_0 < (wrap64 (-a0_0)) then (wrap64 (-a0_0)) else a0_0) = ji2 := hji2
 obtain ⟨ji3, hji3⟩ : ∃ j_ : Int, (mx (ji2) a0_1) = j_ := ⟨_, rfl⟩
 replace H : (some (decide ((mx (ji3) (wrap64 (-a0_1))) > 1073741824))) = some r := by first | (rw [hji3] at H; exact H) | (simp only [hji3] at H ⊢; exact H)
 have hji3_ : (if (ji2) < a0_1 then a0_1 else (ji2)) = ji3 := hji3
 obtain ⟨ji4, hji4⟩ : ∃ j_ : Int, (mx (ji3) (wrap64 (-a0_1))) = j_ := ⟨_, rfl⟩
 replace H : (some (decide ((ji4) > 1073741824))) = some r := by first | (rw [hji4] at H; exact H) | (simp only [hji4] at H ⊢; exact H)
 have hji4_ : (if (ji3) < (wrap64 (-a0_1)) then (wrap64 (-a0_1)) else (ji3)) = ji4 := hji4
 obtain rfl := Option.some.inj H
 go_enter Try.func72, Try.ntmps72
 go_wp2_with (first | ((with_reducible refine gate_dst (N := 1) rfl ?_); refine bE (N := 1) (cs := #[.int .i64 a0_0, .int .i64 a0_1]) (t := 41) ?_; intro gb230 hg w5 hbox hb; have BK230 := bA (hbox); have GW230 := bA (bZ hg); have GE230 := bA (bZ hg); replace HB := bA (bS hb); clear hb hbox hg; obtain ⟨hcz6_0, hcz6_1, hfz6_0, hfz6_1⟩ := bc2 BK230))
 go_ret
 exact ⟨by first | rfl | (simp [errW_none, errW_some] <;> rfl) | (simp only [← hji2, ← hji3, ← hji4]; first | rfl | (simp [errW_none, errW_some] <;> rfl)) | (simp [*, errW_none, errW_some] <;> rfl), by repeat (first | (with_reducible first | exact HB.out | apply below_alloc | apply pw_below_drewN | apply below_drew1 | refine below_set ?_ GE230.out) | exact HB.out)⟩
end Go.Proofs.Ytjmibjmlihmglaa.G
