-- Written by a program of this session out of the translation; Lean checks it.
import Derived.Test.YtlifeghjcgbfnaaGx0
import Derived.Test.YtlifeghjcgbfnaaGx5
import Derived.Test.YtlifeghjcgbfnaaGx6
namespace Go.Proofs.Ytlifeghjcgbfnaa.G
open Go.RowKit Go.Proofs.YtlifeghjcgbfnaaW.PrintWords Go.Proofs.YtlifeghjcgbfnaaW.PrintLast Go.Proofs.YtlifeghjcgbfnaaW.PrintMore
attribute [local go_sem] max2_int min2_int max_two min_two max_three min_three max_four min_four   -- for this text's walks alone
set_option linter.unusedVariables false
set_option linter.unusedSimpArgs false

/-! ### apogeelaw17_awake: function 11 -/
def apogeelaw17_awake.f (k : Nat)  : Option (Bool) := (fall_Time.f k 100 0 2).bind fun bt164 => ((fall_Time.f k 0 5 1).bind fun bt166 => ((fall_Above.f k 100 0 2 10).bind fun bt168 => ((fall_Span.f k 100 0 2 0).bind fun bt170 => ((fall_Time.f k 1 1 0).bind fun bt173 => ((fall_Top.f k 0 5 1).bind fun bt175 => ((fall_Time.f k (-7) 9 1).bind fun bt177 => (if bt164.1 = 10 then (if bt164.2 = true then (if bt166.1 = 10 then (if bt166.2 = true then (if bt168.1 = 0 then (if bt168.2 = true then (if bt170.1 = 10 then (if bt170.2.1 = 12 then (if bt170.2.2 = true then (if bt173.2 = true then (none) else (if bt175.1 = 25 then (if bt175.2 = true then (if bt177.1 = 0 then (some bt177.2) else (none)) else (none)) else (none))) else (none)) else (none)) else (none)) else (none)) else (none)) else (none)) else (none)) else (none)) else (none))))))))
theorem apogeelaw17_awake.mono : ∀ k, LeO (apogeelaw17_awake.f k ) (apogeelaw17_awake.f (k + 1) ) := by
 intro  k
 unfold apogeelaw17_awake.f
 repeat' first
   | (with_reducible exact fall_Above.mono _ _ _ _ _)
   | (with_reducible exact fall_Span.mono _ _ _ _ _)
   | (with_reducible exact fall_Time.mono _ _ _ _)
   | (with_reducible exact fall_Top.mono _ _ _ _)
   | (with_reducible exact LeO.refl _)
   | (with_reducible exact LeO.none _)
   | (with_reducible refine LeO.ite ?_ ?_)
   | (with_reducible refine LeO.bind ?_ (fun _ => ?_))
   | exact fall_Above.mono _ _ _ _ _
   | exact fall_Span.mono _ _ _ _ _
   | exact fall_Time.mono _ _ _ _
   | exact fall_Top.mono _ _ _ _
   | exact LeO.none _
   | refine LeO.ite ?_ ?_
   | refine LeO.bind ?_ (fun _ => ?_)
set_option maxHeartbeats 8000000 in
set_option maxRecDepth 100000 in
theorem apogeelaw17_awake.calls (k : Nat)  (r : Bool) (w : World) (h : apogeelaw17_awake.f k  = some r) :
  Calls Try.prog 11 #[] w fun e w' => e = .returned (.bool r) ∧ Below w.heap.size w w' := by
 have HB := bA (Below.refl w.heap.size w)
 have H : ((fall_Time.f k 100 0 2).bind fun bt164 => ((fall_Time.f k 0 5 1).bind fun bt166 => ((fall_Above.f k 100 0 2 10).bind fun bt168 => ((fall_Span.f k 100 0 2 0).bind fun bt170 => ((fall_Time.f k 1 1 0).bind fun bt173 => ((fall_Top.f k 0 5 1).bind fun bt175 => ((fall_Time.f k (-7) 9 1).bind fun bt177 => (if bt164.1 = 10 then (if bt164.2 = true then (if bt166.1 = 10 then (if bt166.2 = true then (if bt168.1 = 0 then (if bt168.2 = true then (if bt170.1 = 10 then (if bt170.2.1 = 12 then (if bt170.2.2 = true then (if bt173.2 = true then (none) else (if bt175.1 = 25 then (if bt175.2 = true then (if bt177.1 = 0 then (some bt177.2) else (none)) else (none)) else (none))) else (none)) else (none)) else (none)) else (none)) else (none)) else (none)) else (none)) else (none)) else (none))))))))) = some r := h
 clear h
 replace H := Option.bind_eq_some_iff.mp H
 obtain ⟨⟨t164, t165⟩, A10, H⟩ := H
 replace H : ((fall_Time.f k 0 5 1).bind fun bt166 => ((fall_Above.f k 100 0 2 10).bind fun bt168 => ((fall_Span.f k 100 0 2 0).bind fun bt170 => ((fall_Time.f k 1 1 0).bind fun bt173 => ((fall_Top.f k 0 5 1).bind fun bt175 => ((fall_Time.f k (-7) 9 1).bind fun bt177 => (if t164 = 10 then (if t165 = true then (if bt166.1 = 10 then (if bt166.2 = true then (if bt168.1 = 0 then (if bt168.2 = true then (if bt170.1 = 10 then (if bt170.2.1 = 12 then (if bt170.2.2 = true then (if bt173.2 = true then (none) else (if bt175.1 = 25 then (if bt175.2 = true then (if bt177.1 = 0 then (some bt177.2) else (none)) else (none)) else (none))) else (none)) else (none)) else (none)) else (none)) else (none)) else (none)) else (none)) else (none)) else (none)))))))) = some r := H
 have A1 := bA A10
 clear A10
 replace H := Option.bind_eq_some_iff.mp H
 obtain ⟨⟨t166, t167⟩, A20, H⟩ := H
 replace H : ((fall_Above.f k 100 0 2 10).bind fun bt168 => ((fall_Span.f k 100 0 2 0).bind fun bt170 => ((fall_Time.f k 1 1 0).bind fun bt173 => ((fall_Top.f k 0 5 1).bind fun bt175 => ((fall_Time.f k (-7) 9 1).bind fun bt177 => (if t164 = 10 then (if t165 = true then (if t166 = 10 then (if t167 = true then (if bt168.1 = 0 then (if bt168.2 = true then (if bt170.1 = 10 then (if bt170.2.1 = 12 then (if bt170.2.2 = true then (if bt173.2 = true then (none) else (if bt175.1 = 25 then (if bt175.2 = true then (if bt177.1 = 0 then (some bt177.2) else (none)) else (none)) else (none))) else (none)) else (none)) else (none)) else (none)) else (none)) else (none)) else (none)) else (none)) else (none))))))) = some r := H
 have A2 := bA A20
 clear A20
 replace H := Option.bind_eq_some_iff.mp H
 obtain ⟨⟨t168, t169⟩, A30, H⟩ := H
 replace H : ((fall_Span.f k 100 0 2 0).bind fun bt170 => ((fall_Time.f k 1 1 0).bind fun bt173 => ((fall_Top.f k 0 5 1).bind fun bt175 => ((fall_Time.f k (-7) 9 1).bind fun bt177 => (if t164 = 10 then (if t165 = true then (if t166 = 10 then (if t167 = true then (if t168 = 0 then (if t169 = true then (if bt170.1 = 10 then (if bt170.2.1 = 12 then (if bt170.2.2 = true then (if bt173.2 = true then (none) else (if bt175.1 = 25 then (if bt175.2 = true then (if bt177.1 = 0 then (some bt177.2) else (none)) else (none)) else (none))) else (none)) else (none)) else (none)) else (none)) else (none)) else (none)) else (none)) else (none)) else (none)))))) = some r := H
 have A3 := bA A30
 clear A30
 replace H := Option.bind_eq_some_iff.mp H
 obtain ⟨⟨t170, t171, t172⟩, A40, H⟩ := H
 replace H : ((fall_Time.f k 1 1 0).bind fun bt173 => ((fall_Top.f k 0 5 1).bind fun bt175 => ((fall_Time.f k (-7) 9 1).bind fun bt177 => (if t164 = 10 then (if t165 = true then (if t166 = 10 then (if t167 = true then (if t168 = 0 then (if t169 = true then (if t170 = 10 then (if t171 = 12 then (if t172 = true then (if bt173.2 = true then (none) else (if bt175.1 = 25 then (if bt175.2 = true then (if bt177.1 = 0 then (some bt177.2) else (none)) else (none)) else (none))) else (none)) else (none)) else (none)) else (none)) else (none)) else (none)) else (none)) else (none)) else (none))))) = some r := H
 have A4 := bA A40
 clear A40
 replace H := Option.bind_eq_some_iff.mp H
 obtain ⟨⟨t173, t174⟩, A50, H⟩ := H
 replace H : ((fall_Top.f k 0 5 1).bind fun bt175 => ((fall_Time.f k (-7) 9 1).bind fun bt177 => (if t164 = 10 then (if t165 = true then (if t166 = 10 then (if t167 = true then (if t168 = 0 then (if t169 = true then (if t170 = 10 then (if t171 = 12 then (if t172 = true then (if t174 = true then (none) else (if bt175.1 = 25 then (if bt175.2 = true then (if bt177.1 = 0 then (some bt177.2) else (none)) else (none)) else (none))) else (none)) else (none)) else (none)) else (none)) else (none)) else (none)) else (none)) else (none)) else (none)))) = some r := H
 have A5 := bA A50
 clear A50
 replace H := Option.bind_eq_some_iff.mp H
 obtain ⟨⟨t175, t176⟩, A60, H⟩ := H
 replace H : ((fall_Time.f k (-7) 9 1).bind fun bt177 => (if t164 = 10 then (if t165 = true then (if t166 = 10 then (if t167 = true then (if t168 = 0 then (if t169 = true then (if t170 = 10 then (if t171 = 12 then (if t172 = true then (if t174 = true then (none) else (if t175 = 25 then (if t176 = true then (if bt177.1 = 0 then (some bt177.2) else (none)) else (none)) else (none))) else (none)) else (none)) else (none)) else (none)) else (none)) else (none)) else (none)) else (none)) else (none))) = some r := H
 have A6 := bA A60
 clear A60
 replace H := Option.bind_eq_some_iff.mp H
 obtain ⟨⟨t177, t178⟩, A70, H⟩ := H
 replace H : (if t164 = 10 then (if t165 = true then (if t166 = 10 then (if t167 = true then (if t168 = 0 then (if t169 = true then (if t170 = 10 then (if t171 = 12 then (if t172 = true then (if t174 = true then (none) else (if t175 = 25 then (if t176 = true then (if t177 = 0 then (some t178) else (none)) else (none)) else (none))) else (none)) else (none)) else (none)) else (none)) else (none)) else (none)) else (none)) else (none)) else (none)) = some r := H
 have A7 := bA A70
 clear A70
 by_cases c8 : t164 = 10
 ·rw [if_pos c8] at H
  have c8b0 : (t164 == 10) = true := beq_iff_eq.mpr c8
  have c8b1 : (t164 != 10) = false := bne_eq_false_iff_eq.mpr c8
  clear c8
  by_cases c9 : t165 = true
  ·subst c9
   rw [if_pos rfl] at H
   by_cases c10 : t166 = 10
   ·rw [if_pos c10] at H
    have c10b0 : (t166 == 10) = true := beq_iff_eq.mpr c10
    have c10b1 : (t166 != 10) = false := bne_eq_false_iff_eq.mpr c10
    clear c10
    by_cases c11 : t167 = true
    ·subst c11
     rw [if_pos rfl] at H
     by_cases c12 : t168 = 0
     ·rw [if_pos c12] at H
      have c12b0 : (t168 == 0) = true := beq_iff_eq.mpr c12
      have c12b1 : (t168 != 0) = false := bne_eq_false_iff_eq.mpr c12
      clear c12
      by_cases c13 : t169 = true
      ·subst c13
       rw [if_pos rfl] at H
       by_cases c14 : t170 = 10
       ·rw [if_pos c14] at H
        have c14b0 : (t170 == 10) = true := beq_iff_eq.mpr c14
        have c14b1 : (t170 != 10) = false := bne_eq_false_iff_eq.mpr c14
        clear c14
        by_cases c15 : t171 = 12
        ·rw [if_pos c15] at H
         have c15b0 : (t171 == 12) = true := beq_iff_eq.mpr c15
         have c15b1 : (t171 != 12) = false := bne_eq_false_iff_eq.mpr c15
         clear c15
         by_cases c16 : t172 = true
         ·subst c16
          rw [if_pos rfl] at H
          by_cases c17 : t174 = true
          ·subst c17
           rw [if_pos rfl] at H
           exact absurd H (by simp)
          ·replace c17 := Bool.eq_false_iff.mpr c17
           subst c17
           rw [if_neg (show ¬ (false = true) by decide)] at H
           by_cases c18 : t175 = 25
           ·rw [if_pos c18] at H
            have c18b0 : (t175 == 25) = true := beq_iff_eq.mpr c18
            have c18b1 : (t175 != 25) = false := bne_eq_false_iff_eq.mpr c18
            clear c18
            by_cases c19 : t176 = true
            ·subst c19
             rw [if_pos rfl] at H
             by_cases c20 : t177 = 0
             ·rw [if_pos c20] at H
              have c20b0 : (t177 == 0) = true := beq_iff_eq.mpr c20
              have c20b1 : (t177 != 0) = false := bne_eq_false_iff_eq.mpr c20
              clear c20
              obtain rfl := Option.some.inj H
              go_enter Try.func11, Try.ntmps11
              go_wp2_with (first | ((first | ((with_reducible refine gate_callee (f := 7) rfl ?_); refine bC (some 17) Try.func7 #[.int .i64 100, .int .i64 0, .int .i64 2] ?_) | go_at_call 7); (with_reducible refine (fall_Time.calls k 100 0 2 t164 true _ A1.out).mono ?_); rintro e w21 ⟨rfl, hb⟩; (first | refine ⟨_, rfl, ?_⟩ | skip); have n0_ := bA (bS hb); clear HB; have HB := n0_; clear n0_; (try clear hb); (try clear hb2); (try clear hk); (try clear hi)) | ((first | ((with_reducible refine gate_callee (f := 7) rfl ?_); refine bC (some 21) Try.func7 #[.int .i64 0, .int .i64 5, .int .i64 1] ?_) | go_at_call 7); (with_reducible refine (fall_Time.calls k 0 5 1 t166 true _ A2.out).mono ?_); rintro e w22 ⟨rfl, hb⟩; (first | refine ⟨_, rfl, ?_⟩ | skip); have n0_ := bA (bS hb); clear HB; have HB := n0_; clear n0_; (try clear hb); (try clear hb2); (try clear hk); (try clear hi)) | ((first | ((with_reducible refine gate_callee (f := 8) rfl ?_); refine bC (some 25) Try.func8 #[.int .i64 100, .int .i64 0, .int .i64 2, .int .i64 10] ?_) | go_at_call 8); (with_reducible refine (fall_Above.calls k 100 0 2 10 t168 true _ A3.out).mono ?_); rintro e w23 ⟨rfl, hb⟩; (first | refine ⟨_, rfl, ?_⟩ | skip); have n0_ := bA (bS hb); clear HB; have HB := n0_; clear n0_; (try clear hb); (try clear hb2); (try clear hk); (try clear hi)) | ((first | ((with_reducible refine gate_callee (f := 34) rfl ?_); refine bC (some 29) Try.func34 #[.int .i64 100, .int .i64 0, .int .i64 2, .int .i64 0] ?_) | go_at_call 34); (with_reducible refine (fall_Span.calls k 100 0 2 0 t170 t171 true _ A4.out).mono ?_); rintro e w24 ⟨rfl, hb⟩; (first | refine ⟨_, rfl, ?_⟩ | skip); have n0_ := bA (bS hb); clear HB; have HB := n0_; clear n0_; (try clear hb); (try clear hb2); (try clear hk); (try clear hi)) | ((first | ((with_reducible refine gate_callee (f := 7) rfl ?_); refine bC (some 34) Try.func7 #[.int .i64 1, .int .i64 1, .int .i64 0] ?_) | go_at_call 7); (with_reducible refine (fall_Time.calls k 1 1 0 t173 false _ A5.out).mono ?_); rintro e w25 ⟨rfl, hb⟩; (first | refine ⟨_, rfl, ?_⟩ | skip); have n0_ := bA (bS hb); clear HB; have HB := n0_; clear n0_; (try clear hb); (try clear hb2); (try clear hk); (try clear hi)) | ((first | ((with_reducible refine gate_callee (f := 9) rfl ?_); refine bC (some 38) Try.func9 #[.int .i64 0, .int .i64 5, .int .i64 1] ?_) | go_at_call 9); (with_reducible refine (fall_Top.calls k 0 5 1 t175 true _ A6.out).mono ?_); rintro e w26 ⟨rfl, hb⟩; (first | refine ⟨_, rfl, ?_⟩ | skip); have n0_ := bA (bS hb); clear HB; have HB := n0_; clear n0_; (try clear hb); (try clear hb2); (try clear hk); (try clear hi)) | ((first | ((with_reducible refine gate_callee (f := 7) rfl ?_); refine bC (some 42) Try.func7 #[.int .i64 (-7), .int .i64 9, .int .i64 1] ?_) | go_at_call 7); (with_reducible refine (fall_Time.calls k (-7) 9 1 t177 t178 _ A7.out).mono ?_); rintro e w27 ⟨rfl, hb⟩; (first | refine ⟨_, rfl, ?_⟩ | skip); have n0_ := bA (bS hb); clear HB; have HB := n0_; clear n0_; (try clear hb); (try clear hb2); (try clear hk); (try clear hi)))
              go_ret
              exact bF
             ·rw [if_neg c20] at H
              exact absurd H (by simp)
            ·replace c19 := Bool.eq_false_iff.mpr c19
             subst c19
             rw [if_neg (show ¬ (false = true) by decide)] at H
             exact absurd H (by simp)
           ·rw [if_neg c18] at H
            exact absurd H (by simp)
         ·replace c16 := Bool.eq_false_iff.mpr c16
          subst c16
          rw [if_neg (show ¬ (false = true) by decide)] at H
          exact absurd H (by simp)
        ·rw [if_neg c15] at H
         exact absurd H (by simp)
       ·rw [if_neg c14] at H
        exact absurd H (by simp)
      ·replace c13 := Bool.eq_false_iff.mpr c13
       subst c13
       rw [if_neg (show ¬ (false = true) by decide)] at H
       exact absurd H (by simp)
     ·rw [if_neg c12] at H
      exact absurd H (by simp)
    ·replace c11 := Bool.eq_false_iff.mpr c11
     subst c11
     rw [if_neg (show ¬ (false = true) by decide)] at H
     exact absurd H (by simp)
   ·rw [if_neg c10] at H
    exact absurd H (by simp)
  ·replace c9 := Bool.eq_false_iff.mpr c9
   subst c9
   rw [if_neg (show ¬ (false = true) by decide)] at H
   exact absurd H (by simp)
 ·rw [if_neg c8] at H
  exact absurd H (by simp)
/-! ### apogeeref17_root: function 35 -/
def apogeeref17_root.l0 : Nat → Int → Int → Int → Option (Int)
 | 0, _, _, _ => none
 | k + 1, x0, x3, x4 => if (wrap64 (x4 - x3)) > 1 then (if (wrap64 ((wrap64 (x3 + (wrap64 (Int.tdiv (wrap64 (x4 - x3)) 2)))) * (wrap64 (x3 + (wrap64 (Int.tdiv (wrap64 (x4 - x3)) 2)))))) ≤ x0 then (apogeeref17_root.l0 k x0 (wrap64 (x3 + (wrap64 (Int.tdiv (wrap64 (x4 - x3)) 2)))) x4) else (apogeeref17_root.l0 k x0 x3 (wrap64 (x3 + (wrap64 (Int.tdiv (wrap64 (x4 - x3)) 2)))))) else (some x3)
def apogeeref17_root.f (k : Nat) (a0 : Int) : Option (Int) := apogeeref17_root.l0 k a0 0 2147483648
theorem apogeeref17_root.mono_l : ∀ k, (∀ y0 y1 y2, LeO (apogeeref17_root.l0 k y0 y1 y2) (apogeeref17_root.l0 (k + 1) y0 y1 y2))
 | 0 => fun _ _ _ r h => by simp [apogeeref17_root.l0] at h
 | k + 1 => by
  have ih0 := apogeeref17_root.mono_l k
  ·intro y0 y1 y2
   unfold apogeeref17_root.l0
   repeat' first
   | (with_reducible exact ih0 _ _ _)
   | (with_reducible exact LeO.refl _)
   | (with_reducible exact LeO.none _)
   | (with_reducible refine LeO.ite ?_ ?_)
   | (with_reducible refine LeO.bind ?_ (fun _ => ?_))
   | exact ih0 _ _ _
   | exact LeO.none _
   | refine LeO.ite ?_ ?_
   | refine LeO.bind ?_ (fun _ => ?_)
theorem apogeeref17_root.mono : ∀ a0 k, LeO (apogeeref17_root.f k a0) (apogeeref17_root.f (k + 1) a0) := by
 intro a0 k
 have ih0 := apogeeref17_root.mono_l k
 unfold apogeeref17_root.f
 repeat' first
   | (with_reducible exact ih0 _ _ _)
   | (with_reducible exact LeO.refl _)
   | (with_reducible exact LeO.none _)
   | (with_reducible refine LeO.ite ?_ ?_)
   | (with_reducible refine LeO.bind ?_ (fun _ => ?_))
   | exact ih0 _ _ _
   | exact LeO.none _
   | refine LeO.ite ?_ ?_
   | refine LeO.bind ?_ (fun _ => ?_)
set_option maxHeartbeats 8000000 in
set_option maxRecDepth 100000 in
theorem apogeeref17_root.calls (k : Nat) (a0 : Int) (r : Int) (w : World) (h : apogeeref17_root.f k a0 = some r) :
  Calls Try.prog 35 #[.int .i64 a0] w fun e w' => e = .returned (.int .i64 r) ∧ Drawn0 w w' := by
 have H : (apogeeref17_root.l0 k a0 0 2147483648) = some r := h
 clear h
 have H' := bA H
 clear H
 go_enter Try.func35, Try.ntmps35
 go_wp2
 go_loopg [3, 4] k (fun kq v3 v4 w' => ∃ (x3_1 : Int) (x4_1 : Int), v3 = .int .i64 x3_1 ∧ v4 = .int .i64 x4_1 ∧ Aside0 (apogeeref17_root.l0 kq a0 x3_1 x4_1 = some r) ∧ Aside0 (kq ≤ k) ∧ Drawn0 w w')
 case atStart => exact ⟨(0), (2147483648), (by first | rfl | (simp; done) | (simp [*]; done)), (by first | rfl | (simp; done) | (simp [*]; done)), H', ⟨Nat.le_refl _⟩, by repeat (first | exact Drawn0.refl _ | apply Drawn0.step)⟩
 case round =>
  clear H'
  obtain ⟨x3_1, x4_1, rfl, rfl, HA, HK1, ⟨m1, rfl⟩⟩ := hrel
  cases gk with
  | zero => exact absurd HA.out (by simp [apogeeref17_root.l0])
  | succ k1 =>
   have H := HA.out
   clear HA
   simp only [apogeeref17_root.l0] at H
   by_cases c2 : (wrap64 (x4_1 - x3_1)) > 1
   rw [if_pos c2] at H
   have c2b0 : decide (1 < (wrap64 (x4_1 - x3_1))) = true := decide_eq_true c2
   clear c2
   by_cases c3 : (wrap64 ((wrap64 (x3_1 + (wrap64 (Int.tdiv (wrap64 (x4_1 - x3_1)) 2)))) * (wrap64 (x3_1 + (wrap64 (Int.tdiv (wrap64 (x4_1 - x3_1)) 2)))))) ≤ a0
   rw [if_pos c3] at H
   have c3b0 : decide ((wrap64 ((wrap64 (x3_1 + (wrap64 (Int.tdiv (wrap64 (x4_1 - x3_1)) 2)))) * (wrap64 (x3_1 + (wrap64 (Int.tdiv (wrap64 (x4_1 - x3_1)) 2)))))) ≤ a0) = true := decide_eq_true c3
   clear c3
   have H' := bA H
   clear H
   rotate_left
   rw [if_neg c3] at H
   have c3b0 : decide ((wrap64 ((wrap64 (x3_1 + (wrap64 (Int.tdiv (wrap64 (x4_1 - x3_1)) 2)))) * (wrap64 (x3_1 + (wrap64 (Int.tdiv (wrap64 (x4_1 - x3_1)) 2)))))) ≤ a0) = false := decide_eq_false c3
   clear c3
   have H' := bA H
   clear H
   rotate_left
   rw [if_neg c2] at H
   have c2b0 : decide (1 < (wrap64 (x4_1 - x3_1))) = false := decide_eq_false c2
   clear c2
   obtain rfl := Option.some.inj H
   rotate_left
   all_goals go_wp2
   ·go_roundg k1
    case measure => have := HK1.out; omega
    case rel => exact ⟨(wrap64 (x3_1 + (wrap64 (Int.tdiv (wrap64 (x4_1 - x3_1)) 2)))), (x4_1), (by first | rfl | (simp; done) | (simp [*]; done)), (by first | rfl | (simp; done) | (simp [*]; done)), H', ⟨by have := HK1.out; omega⟩, by repeat (first | exact Drawn0.refl _ | apply Drawn0.step)⟩
   ·go_roundg k1
    case measure => have := HK1.out; omega
    case rel => exact ⟨(x3_1), (wrap64 (x3_1 + (wrap64 (Int.tdiv (wrap64 (x4_1 - x3_1)) 2)))), (by first | rfl | (simp; done) | (simp [*]; done)), (by first | rfl | (simp; done) | (simp [*]; done)), H', ⟨by have := HK1.out; omega⟩, by repeat (first | exact Drawn0.refl _ | apply Drawn0.step)⟩
   ·go_ret
    exact bD
/-! ### apogeeref17_Time: function 12 -/
def apogeeref17_Time.f (k : Nat) (a0 : Int) (a1 : Int) (a2 : Int) : Option (Int) := if a0 < 0 then (some 0) else ((apogeeref17_root.f k (wrap64 ((wrap64 (a1 * a1)) + (wrap64 ((wrap64 (2 * a2)) * a0))))).bind fun t179 => (if a2 = 0 then (none) else (some (wrap64 (Int.tdiv (wrap64 (a1 + t179)) a2)))))
theorem apogeeref17_Time.mono : ∀ a0 a1 a2 k, LeO (apogeeref17_Time.f k a0 a1 a2) (apogeeref17_Time.f (k + 1) a0 a1 a2) := by
 intro a0 a1 a2 k
 unfold apogeeref17_Time.f
 repeat' first
   | (with_reducible exact apogeeref17_root.mono _ _)
   | (with_reducible exact LeO.refl _)
   | (with_reducible exact LeO.none _)
   | (with_reducible refine LeO.ite ?_ ?_)
   | (with_reducible refine LeO.bind ?_ (fun _ => ?_))
   | exact apogeeref17_root.mono _ _
   | exact LeO.none _
   | refine LeO.ite ?_ ?_
   | refine LeO.bind ?_ (fun _ => ?_)
set_option maxHeartbeats 8000000 in
set_option maxRecDepth 100000 in
theorem apogeeref17_Time.calls (k : Nat) (a0 : Int) (a1 : Int) (a2 : Int) (r : Int) (w : World) (h : apogeeref17_Time.f k a0 a1 a2 = some r) :
  Calls Try.prog 12 #[.int .i64 a0, .int .i64 a1, .int .i64 a2] w fun e w' => e = .returned (.int .i64 r) ∧ Drawn0 w w' := by
 have H : (if a0 < 0 then (some 0) else ((apogeeref17_root.f k (wrap64 ((wrap64 (a1 * a1)) + (wrap64 ((wrap64 (2 * a2)) * a0))))).bind fun t179 => (if a2 = 0 then (none) else (some (wrap64 (Int.tdiv (wrap64 (a1 + t179)) a2)))))) = some r := h
 clear h
 by_cases c4 : a0 < 0
 rw [if_pos c4] at H
 have c4b0 : decide (a0 < 0) = true := decide_eq_true c4
 clear c4
 obtain rfl := Option.some.inj H
 rotate_left
 rw [if_neg c4] at H
 have c4b0 : decide (a0 < 0) = false := decide_eq_false c4
 clear c4
 replace H := Option.bind_eq_some_iff.mp H
 obtain ⟨t179, A50, H⟩ := H
 replace H : (if a2 = 0 then (none) else (some (wrap64 (Int.tdiv (wrap64 (a1 + t179)) a2)))) = some r := H
 have A5 := bA A50
 clear A50
 by_cases c6 : a2 = 0
 rw [if_pos c6] at H
 exact absurd H (by simp)
 rw [if_neg c6] at H
 have c6b0 : (a2 == 0) = false := beq_eq_false_iff_ne.mpr c6
 have c6b1 : (a2 != 0) = true := bne_iff_ne.mpr c6
 obtain rfl := Option.some.inj H
 rotate_left
 all_goals go_enter Try.func12, Try.ntmps12
 all_goals go_wp2_with (first | ((first | ((with_reducible refine gate_callee (f := 35) rfl ?_); refine bC (some 18) Try.func35 #[.int .i64 (wrap64 ((wrap64 (a1 * a1)) + (wrap64 ((wrap64 (2 * a2)) * a0))))] ?_) | go_at_call 35); (with_reducible refine (apogeeref17_root.calls k (wrap64 ((wrap64 (a1 * a1)) + (wrap64 ((wrap64 (2 * a2)) * a0)))) t179 _ A5.out).mono ?_); rintro e w' ⟨rfl, ⟨nd, rfl⟩⟩; (first | refine ⟨_, rfl, ?_⟩ | skip)))
 all_goals (go_ret; exact bD)
/-! ### apogeeref17_Above: function 14 -/
def apogeeref17_Above.f (a0 : Int) (a1 : Int) (a2 : Int) (a3 : Int) : Option (Int) := some (wrap64 ((wrap64 ((wrap64 (2 * a0)) + (wrap64 ((wrap64 (2 * a1)) * a3)))) - (wrap64 ((wrap64 (a2 * a3)) * a3))))
set_option maxHeartbeats 8000000 in
set_option maxRecDepth 100000 in
theorem apogeeref17_Above.calls (a0 : Int) (a1 : Int) (a2 : Int) (a3 : Int) (r : Int) (w : World) (h : apogeeref17_Above.f a0 a1 a2 a3 = some r) :
  Calls Try.prog 14 #[.int .i64 a0, .int .i64 a1, .int .i64 a2, .int .i64 a3] w fun e w' => e = .returned (.int .i64 r) ∧ Drawn0 w w' := by
 have H : (some (wrap64 ((wrap64 ((wrap64 (2 * a0)) + (wrap64 ((wrap64 (2 * a1)) * a3)))) - (wrap64 ((wrap64 (a2 * a3)) * a3))))) = some r := h
 clear h
 obtain rfl := Option.some.inj H
 go_enter Try.func14, Try.ntmps14
 go_wp2
 go_ret
 exact bD
/-! ### apogeeref17_Top: function 13 -/
def apogeeref17_Top.f (a0 : Int) (a1 : Int) (a2 : Int) : Option (Int) := if a1 < 0 then (some (wrap64 (2 * a0))) else (if a2 = 0 then (none) else ((apogeeref17_Above.f a0 a1 a2 (wrap64 (Int.tdiv a1 a2))).bind fun t180 => ((apogeeref17_Above.f a0 a1 a2 (wrap64 ((wrap64 (Int.tdiv a1 a2)) + 1))).bind fun t181 => (some (mx (mx (wrap64 (2 * a0)) t180) t181)))))
set_option maxHeartbeats 8000000 in
set_option maxRecDepth 100000 in
theorem apogeeref17_Top.calls (a0 : Int) (a1 : Int) (a2 : Int) (r : Int) (w : World) (h : apogeeref17_Top.f a0 a1 a2 = some r) :
  Calls Try.prog 13 #[.int .i64 a0, .int .i64 a1, .int .i64 a2] w fun e w' => e = .returned (.int .i64 r) ∧ Below w.heap.size w w' := by
 have HB := bA (Below.refl w.heap.size w)
 have H : (if a1 < 0 then (some (wrap64 (2 * a0))) else (if a2 = 0 then (none) else ((apogeeref17_Above.f a0 a1 a2 (wrap64 (Int.tdiv a1 a2))).bind fun t180 => ((apogeeref17_Above.f a0 a1 a2 (wrap64 ((wrap64 (Int.tdiv a1 a2)) + 1))).bind fun t181 => (some (mx (mx (wrap64 (2 * a0)) t180) t181)))))) = some r := h
 clear h
 by_cases c4 : a1 < 0
 ·rw [if_pos c4] at H
  have c4b0 : decide (a1 < 0) = true := decide_eq_true c4
  clear c4
  obtain rfl := Option.some.inj H
  go_enter Try.func13, Try.ntmps13
  go_wp2
  repeat (go_quiet (fail); try go_wp2)
  go_ret
  exact bF
 ·rw [if_neg c4] at H
  have c4b0 : decide (a1 < 0) = false := decide_eq_false c4
  clear c4
  by_cases c5 : a2 = 0
  ·rw [if_pos c5] at H
   exact absurd H (by simp)
  ·rw [if_neg c5] at H
   have c5b0 : (a2 == 0) = false := beq_eq_false_iff_ne.mpr c5
   have c5b1 : (a2 != 0) = true := bne_iff_ne.mpr c5
   replace H := Option.bind_eq_some_iff.mp H
   obtain ⟨t180, A60, H⟩ := H
   replace H : ((apogeeref17_Above.f a0 a1 a2 (wrap64 ((wrap64 (Int.tdiv a1 a2)) + 1))).bind fun t181 => (some (mx (mx (wrap64 (2 * a0)) t180) t181))) = some r := H
   have A6 := bA A60
   clear A60
   replace H := Option.bind_eq_some_iff.mp H
   obtain ⟨t181, A70, H⟩ := H
   replace H : (some (mx (mx (wrap64 (2 * a0)) t180) t181)) = some r := H
   have A7 := bA A70
   clear A70
   obtain ⟨ji8, hji8⟩ : ∃ j_ : Int, (mx (wrap64 (2 * a0)) t180) = j_ := ⟨_, rfl⟩
   replace H : (some (mx (ji8) t181)) = some r := by first | (rw [hji8] at H; exact H) | (simp only [hji8] at H ⊢; exact H)
   (try rw [hji8] at A6)
   (try rw [hji8] at A7)
   have hji8_ : (if (wrap64 (2 * a0)) < t180 then t180 else (wrap64 (2 * a0))) = ji8 := hji8
   obtain ⟨ji9, hji9⟩ : ∃ j_ : Int, (mx (ji8) t181) = j_ := ⟨_, rfl⟩
   replace H : (some ji9) = some r := by first | (rw [hji9] at H; exact H) | (simp only [hji9] at H ⊢; exact H)
   (try rw [hji9] at A6)
   (try rw [hji9] at A7)
   have hji9_ : (if (ji8) < t181 then t181 else (ji8)) = ji9 := hji9
   obtain rfl := Option.some.inj H
   go_enter Try.func13, Try.ntmps13
   go_wp2_with (first | (go_at_call 14; (with_reducible refine (apogeeref17_Above.calls a0 a1 a2 (wrap64 (Int.tdiv a1 a2)) t180 _ A6.out).mono ?_); rintro e w' ⟨rfl, ⟨nd, rfl⟩⟩; (try first | exact ⟨rfl, _, World.drewN_drewN _ _ _⟩ | exact ⟨rfl, _, Eq.trans (World.drewN_drewN _ _ _) (congrArg (World.drewN _) (Nat.add_assoc _ _ _))⟩)) | (go_at_call 14; (with_reducible refine (apogeeref17_Above.calls a0 a1 a2 (wrap64 ((wrap64 (Int.tdiv a1 a2)) + 1)) t181 _ A7.out).mono ?_); rintro e w' ⟨rfl, ⟨nd, rfl⟩⟩; (try first | exact ⟨rfl, _, World.drewN_drewN _ _ _⟩ | exact ⟨rfl, _, Eq.trans (World.drewN_drewN _ _ _) (congrArg (World.drewN _) (Nat.add_assoc _ _ _))⟩)))
   repeat (go_quiet (first | (go_at_call 14; (with_reducible refine (apogeeref17_Above.calls a0 a1 a2 (wrap64 (Int.tdiv a1 a2)) t180 _ A6.out).mono ?_); rintro e w' ⟨rfl, ⟨nd, rfl⟩⟩; (try first | exact ⟨rfl, _, World.drewN_drewN _ _ _⟩ | exact ⟨rfl, _, Eq.trans (World.drewN_drewN _ _ _) (congrArg (World.drewN _) (Nat.add_assoc _ _ _))⟩)) | (go_at_call 14; (with_reducible refine (apogeeref17_Above.calls a0 a1 a2 (wrap64 ((wrap64 (Int.tdiv a1 a2)) + 1)) t181 _ A7.out).mono ?_); rintro e w' ⟨rfl, ⟨nd, rfl⟩⟩; (try first | exact ⟨rfl, _, World.drewN_drewN _ _ _⟩ | exact ⟨rfl, _, Eq.trans (World.drewN_drewN _ _ _) (congrArg (World.drewN _) (Nat.add_assoc _ _ _))⟩))); try go_wp2_with (first | (go_at_call 14; (with_reducible refine (apogeeref17_Above.calls a0 a1 a2 (wrap64 (Int.tdiv a1 a2)) t180 _ A6.out).mono ?_); rintro e w' ⟨rfl, ⟨nd, rfl⟩⟩; (try first | exact ⟨rfl, _, World.drewN_drewN _ _ _⟩ | exact ⟨rfl, _, Eq.trans (World.drewN_drewN _ _ _) (congrArg (World.drewN _) (Nat.add_assoc _ _ _))⟩)) | (go_at_call 14; (with_reducible refine (apogeeref17_Above.calls a0 a1 a2 (wrap64 ((wrap64 (Int.tdiv a1 a2)) + 1)) t181 _ A7.out).mono ?_); rintro e w' ⟨rfl, ⟨nd, rfl⟩⟩; (try first | exact ⟨rfl, _, World.drewN_drewN _ _ _⟩ | exact ⟨rfl, _, Eq.trans (World.drewN_drewN _ _ _) (congrArg (World.drewN _) (Nat.add_assoc _ _ _))⟩))))
   go_ret
   exact ⟨by first | rfl | (simp [errW_none, errW_some] <;> rfl) | (simp only [← hji8, ← hji9]; first | rfl | (simp [errW_none, errW_some] <;> rfl)) | (simp [*, errW_none, errW_some] <;> rfl), by repeat (first | (with_reducible first | exact HB.out | apply below_alloc | apply pw_below_drewN | apply below_drew1) | exact HB.out)⟩
/-! ### apogeelaw17_FallTells: function 3 -/
def apogeelaw17_FallTells.j0 : Nat → Int → Int → Int → Int → Int → Int → Bool → Int → Bool → Bool → Option (Bool)
 | 0, _, _, _, _, _, _, _, _, _, _ => none
 | k + 1, x0, x1, x2, x3, x9, x11, x12, x13, x15, x66 => if x66 = true then (none) else (if x15 = true then ((apogeeref17_Time.f k x0 x1 x2).bind fun t190 => (if x9 = t190 then ((apogeeref17_Top.f x0 x1 x2).bind fun t191 => (if x13 = t191 then (if x12 = true then ((apogeeref17_Above.f x0 x1 x2 x3).bind fun t192 => (some (x11 == t192))) else (if x11 = 0 then (some true) else (none))) else (none))) else (none))) else (if x9 = 0 then (if x11 = 0 then (some (x13 == 0)) else (none)) else (none)))
def apogeelaw17_FallTells.f (k : Nat) (a0 : Int) (a1 : Int) (a2 : Int) (a3 : Int) : Option (Bool) := (fall_Time.f k a0 a1 a2).bind fun bt182 => ((fall_Above.f k a0 a1 a2 a3).bind fun bt184 => ((fall_Top.f k a0 a1 a2).bind fun bt186 => ((apogeeref17_May.f a0 a1 a2).bind fun t188 => ((apogeelaw17_awake.f k).bind fun t189 => (if t189 = true then (if (bt182.2 != t188) = true then (apogeelaw17_FallTells.j0 k a0 a1 a2 a3 bt182.1 bt184.1 bt184.2 bt186.1 t188 true) else (if (bt186.2 != t188) = true then (apogeelaw17_FallTells.j0 k a0 a1 a2 a3 bt182.1 bt184.1 bt184.2 bt186.1 t188 true) else (if t188 = true then (if a3 ≥ 0 then (apogeelaw17_FallTells.j0 k a0 a1 a2 a3 bt182.1 bt184.1 bt184.2 bt186.1 t188 (bt184.2 != (decide (a3 ≤ 16777216)))) else (apogeelaw17_FallTells.j0 k a0 a1 a2 a3 bt182.1 bt184.1 bt184.2 bt186.1 t188 (bt184.2 != false))) else (apogeelaw17_FallTells.j0 k a0 a1 a2 a3 bt182.1 bt184.1 bt184.2 bt186.1 t188 (bt184.2 != false))))) else (apogeelaw17_FallTells.j0 k a0 a1 a2 a3 bt182.1 bt184.1 bt184.2 bt186.1 t188 true))))))
theorem apogeelaw17_FallTells.mono_l : ∀ k, (∀ y0 y1 y2 y3 y4 y5 y6 y7 y8 y9, LeO (apogeelaw17_FallTells.j0 k y0 y1 y2 y3 y4 y5 y6 y7 y8 y9) (apogeelaw17_FallTells.j0 (k + 1) y0 y1 y2 y3 y4 y5 y6 y7 y8 y9))
 | 0 => fun _ _ _ _ _ _ _ _ _ _ r h => by simp [apogeelaw17_FallTells.j0] at h
 | k + 1 => by
  have ih0 := apogeelaw17_FallTells.mono_l k
  ·intro y0 y1 y2 y3 y4 y5 y6 y7 y8 y9
   unfold apogeelaw17_FallTells.j0
   repeat' first
   | (with_reducible exact ih0 _ _ _ _ _ _ _ _ _ _)
   | (with_reducible exact apogeelaw17_awake.mono _)
   | (with_reducible exact apogeeref17_Time.mono _ _ _ _)
   | (with_reducible exact fall_Above.mono _ _ _ _ _)
   | (with_reducible exact fall_Time.mono _ _ _ _)
   | (with_reducible exact fall_Top.mono _ _ _ _)
   | (with_reducible exact LeO.refl _)
   | (with_reducible exact LeO.none _)
   | (with_reducible refine LeO.ite ?_ ?_)
   | (with_reducible refine LeO.bind ?_ (fun _ => ?_))
   | exact ih0 _ _ _ _ _ _ _ _ _ _
   | exact apogeelaw17_awake.mono _
   | exact apogeeref17_Time.mono _ _ _ _
   | exact fall_Above.mono _ _ _ _ _
   | exact fall_Time.mono _ _ _ _
   | exact fall_Top.mono _ _ _ _
   | exact LeO.none _
   | refine LeO.ite ?_ ?_
   | refine LeO.bind ?_ (fun _ => ?_)
theorem apogeelaw17_FallTells.mono : ∀ a0 a1 a2 a3 k, LeO (apogeelaw17_FallTells.f k a0 a1 a2 a3) (apogeelaw17_FallTells.f (k + 1) a0 a1 a2 a3) := by
 intro a0 a1 a2 a3 k
 have ih0 := apogeelaw17_FallTells.mono_l k
 unfold apogeelaw17_FallTells.f
 repeat' first
   | (with_reducible exact ih0 _ _ _ _ _ _ _ _ _ _)
   | (with_reducible exact apogeelaw17_awake.mono _)
   | (with_reducible exact apogeeref17_Time.mono _ _ _ _)
   | (with_reducible exact fall_Above.mono _ _ _ _ _)
   | (with_reducible exact fall_Time.mono _ _ _ _)
   | (with_reducible exact fall_Top.mono _ _ _ _)
   | (with_reducible exact LeO.refl _)
   | (with_reducible exact LeO.none _)
   | (with_reducible refine LeO.ite ?_ ?_)
   | (with_reducible refine LeO.bind ?_ (fun _ => ?_))
   | exact ih0 _ _ _ _ _ _ _ _ _ _
   | exact apogeelaw17_awake.mono _
   | exact apogeeref17_Time.mono _ _ _ _
   | exact fall_Above.mono _ _ _ _ _
   | exact fall_Time.mono _ _ _ _
   | exact fall_Top.mono _ _ _ _
   | exact LeO.none _
   | refine LeO.ite ?_ ?_
   | refine LeO.bind ?_ (fun _ => ?_)
set_option maxHeartbeats 8000000 in
set_option maxRecDepth 100000 in
theorem apogeelaw17_FallTells.calls (k : Nat) (a0 : Int) (a1 : Int) (a2 : Int) (a3 : Int) (r : Bool) (w : World) (h : apogeelaw17_FallTells.f k a0 a1 a2 a3 = some r) :
  Calls Try.prog 3 #[.int .i64 a0, .int .i64 a1, .int .i64 a2, .int .i64 a3] w fun e w' => e = .returned (.bool r) ∧ Below w.heap.size w w' := by
 have HB := bA (Below.refl w.heap.size w)
 have H : ((fall_Time.f k a0 a1 a2).bind fun bt182 => ((fall_Above.f k a0 a1 a2 a3).bind fun bt184 => ((fall_Top.f k a0 a1 a2).bind fun bt186 => ((apogeeref17_May.f a0 a1 a2).bind fun t188 => ((apogeelaw17_awake.f k).bind fun t189 => (if t189 = true then (if (bt182.2 != t188) = true then (apogeelaw17_FallTells.j0 k a0 a1 a2 a3 bt182.1 bt184.1 bt184.2 bt186.1 t188 true) else (if (bt186.2 != t188) = true then (apogeelaw17_FallTells.j0 k a0 a1 a2 a3 bt182.1 bt184.1 bt184.2 bt186.1 t188 true) else (if t188 = true then (if a3 ≥ 0 then (apogeelaw17_FallTells.j0 k a0 a1 a2 a3 bt182.1 bt184.1 bt184.2 bt186.1 t188 (bt184.2 != (decide (a3 ≤ 16777216)))) else (apogeelaw17_FallTells.j0 k a0 a1 a2 a3 bt182.1 bt184.1 bt184.2 bt186.1 t188 (bt184.2 != false))) else (apogeelaw17_FallTells.j0 k a0 a1 a2 a3 bt182.1 bt184.1 bt184.2 bt186.1 t188 (bt184.2 != false))))) else (apogeelaw17_FallTells.j0 k a0 a1 a2 a3 bt182.1 bt184.1 bt184.2 bt186.1 t188 true))))))) = some r := h
 clear h
 replace H := Option.bind_eq_some_iff.mp H
 obtain ⟨⟨t182, t183⟩, A50, H⟩ := H
 replace H : ((fall_Above.f k a0 a1 a2 a3).bind fun bt184 => ((fall_Top.f k a0 a1 a2).bind fun bt186 => ((apogeeref17_May.f a0 a1 a2).bind fun t188 => ((apogeelaw17_awake.f k).bind fun t189 => (if t189 = true then (if (t183 != t188) = true then (apogeelaw17_FallTells.j0 k a0 a1 a2 a3 t182 bt184.1 bt184.2 bt186.1 t188 true) else (if (bt186.2 != t188) = true then (apogeelaw17_FallTells.j0 k a0 a1 a2 a3 t182 bt184.1 bt184.2 bt186.1 t188 true) else (if t188 = true then (if a3 ≥ 0 then (apogeelaw17_FallTells.j0 k a0 a1 a2 a3 t182 bt184.1 bt184.2 bt186.1 t188 (bt184.2 != (decide (a3 ≤ 16777216)))) else (apogeelaw17_FallTells.j0 k a0 a1 a2 a3 t182 bt184.1 bt184.2 bt186.1 t188 (bt184.2 != false))) else (apogeelaw17_FallTells.j0 k a0 a1 a2 a3 t182 bt184.1 bt184.2 bt186.1 t188 (bt184.2 != false))))) else (apogeelaw17_FallTells.j0 k a0 a1 a2 a3 t182 bt184.1 bt184.2 bt186.1 t188 true)))))) = some r := H
 have A5 := bA A50
 clear A50
 replace H := Option.bind_eq_some_iff.mp H
 obtain ⟨⟨t184, t185⟩, A60, H⟩ := H
 replace H : ((fall_Top.f k a0 a1 a2).bind fun bt186 => ((apogeeref17_May.f a0 a1 a2).bind fun t188 => ((apogeelaw17_awake.f k).bind fun t189 => (if t189 = true then (if (t183 != t188) = true then (apogeelaw17_FallTells.j0 k a0 a1 a2 a3 t182 t184 t185 bt186.1 t188 true) else (if (bt186.2 != t188) = true then (apogeelaw17_FallTells.j0 k a0 a1 a2 a3 t182 t184 t185 bt186.1 t188 true) else (if t188 = true then (if a3 ≥ 0 then (apogeelaw17_FallTells.j0 k a0 a1 a2 a3 t182 t184 t185 bt186.1 t188 (t185 != (decide (a3 ≤ 16777216)))) else (apogeelaw17_FallTells.j0 k a0 a1 a2 a3 t182 t184 t185 bt186.1 t188 (t185 != false))) else (apogeelaw17_FallTells.j0 k a0 a1 a2 a3 t182 t184 t185 bt186.1 t188 (t185 != false))))) else (apogeelaw17_FallTells.j0 k a0 a1 a2 a3 t182 t184 t185 bt186.1 t188 true))))) = some r := H
 have A6 := bA A60
 clear A60
 replace H := Option.bind_eq_some_iff.mp H
 obtain ⟨⟨t186, t187⟩, A70, H⟩ := H
 replace H : ((apogeeref17_May.f a0 a1 a2).bind fun t188 => ((apogeelaw17_awake.f k).bind fun t189 => (if t189 = true then (if (t183 != t188) = true then (apogeelaw17_FallTells.j0 k a0 a1 a2 a3 t182 t184 t185 t186 t188 true) else (if (t187 != t188) = true then (apogeelaw17_FallTells.j0 k a0 a1 a2 a3 t182 t184 t185 t186 t188 true) else (if t188 = true then (if a3 ≥ 0 then (apogeelaw17_FallTells.j0 k a0 a1 a2 a3 t182 t184 t185 t186 t188 (t185 != (decide (a3 ≤ 16777216)))) else (apogeelaw17_FallTells.j0 k a0 a1 a2 a3 t182 t184 t185 t186 t188 (t185 != false))) else (apogeelaw17_FallTells.j0 k a0 a1 a2 a3 t182 t184 t185 t186 t188 (t185 != false))))) else (apogeelaw17_FallTells.j0 k a0 a1 a2 a3 t182 t184 t185 t186 t188 true)))) = some r := H
 have A7 := bA A70
 clear A70
 replace H := Option.bind_eq_some_iff.mp H
 obtain ⟨t188, A80, H⟩ := H
 replace H : ((apogeelaw17_awake.f k).bind fun t189 => (if t189 = true then (if (t183 != t188) = true then (apogeelaw17_FallTells.j0 k a0 a1 a2 a3 t182 t184 t185 t186 t188 true) else (if (t187 != t188) = true then (apogeelaw17_FallTells.j0 k a0 a1 a2 a3 t182 t184 t185 t186 t188 true) else (if t188 = true then (if a3 ≥ 0 then (apogeelaw17_FallTells.j0 k a0 a1 a2 a3 t182 t184 t185 t186 t188 (t185 != (decide (a3 ≤ 16777216)))) else (apogeelaw17_FallTells.j0 k a0 a1 a2 a3 t182 t184 t185 t186 t188 (t185 != false))) else (apogeelaw17_FallTells.j0 k a0 a1 a2 a3 t182 t184 t185 t186 t188 (t185 != false))))) else (apogeelaw17_FallTells.j0 k a0 a1 a2 a3 t182 t184 t185 t186 t188 true))) = some r := H
 have A8 := bA A80
 clear A80
 have HC9 := bA H
 clear H
 go_enter Try.func3, Try.ntmps3
 go_upto_region 5 with (first | ((first | ((with_reducible refine gate_callee (f := 7) rfl ?_); refine bC (some 20) Try.func7 #[.int .i64 a0, .int .i64 a1, .int .i64 a2] ?_) | go_at_call 7); (with_reducible refine (fall_Time.calls k a0 a1 a2 t182 t183 _ A5.out).mono ?_); rintro e w10 ⟨rfl, hb⟩; (first | refine ⟨_, rfl, ?_⟩ | skip); have n0_ := bA (bS hb); clear HB; have HB := n0_; clear n0_; (try clear hb); (try clear hb2); (try clear hk); (try clear hi)) | ((first | ((with_reducible refine gate_callee (f := 8) rfl ?_); refine bC (some 28) Try.func8 #[.int .i64 a0, .int .i64 a1, .int .i64 a2, .int .i64 a3] ?_) | go_at_call 8); (with_reducible refine (fall_Above.calls k a0 a1 a2 a3 t184 t185 _ A6.out).mono ?_); rintro e w11 ⟨rfl, hb⟩; (first | refine ⟨_, rfl, ?_⟩ | skip); have n0_ := bA (bS hb); clear HB; have HB := n0_; clear n0_; (try clear hb); (try clear hb2); (try clear hk); (try clear hi)) | ((first | ((with_reducible refine gate_callee (f := 9) rfl ?_); refine bC (some 35) Try.func9 #[.int .i64 a0, .int .i64 a1, .int .i64 a2] ?_) | go_at_call 9); (with_reducible refine (fall_Top.calls k a0 a1 a2 t186 t187 _ A7.out).mono ?_); rintro e w12 ⟨rfl, hb⟩; (first | refine ⟨_, rfl, ?_⟩ | skip); have n0_ := bA (bS hb); clear HB; have HB := n0_; clear n0_; (try clear hb); (try clear hb2); (try clear hk); (try clear hi)) | ((first | ((with_reducible refine gate_callee (f := 10) rfl ?_); refine bC (some 41) Try.func10 #[.int .i64 a0, .int .i64 a1, .int .i64 a2] ?_) | go_at_call 10); (with_reducible refine (apogeeref17_May.calls a0 a1 a2 t188 _ A8.out).mono ?_); rintro e w' ⟨rfl, ⟨nd, rfl⟩⟩; (first | refine ⟨_, rfl, ?_⟩ | skip)))
 (try simp only [Act.put, List.setIfInBounds_toArray, List.set_cons_zero, List.set_cons_succ])
 go_cut [66] (fun v66 wc => ∃ (kq : Nat) (x66_8 : Bool), v66 = .bool x66_8 ∧ Aside0 (apogeelaw17_FallTells.j0 kq a0 a1 a2 a3 t182 t184 t185 t186 t188 x66_8 = some r) ∧ Aside0 (kq ≤ k) ∧ Aside0 (Below w.heap.size w wc))
 case first =>
  have H := HC9.out
  clear HC9
  replace H := Option.bind_eq_some_iff.mp H
  obtain ⟨t189, A130, H⟩ := H
  replace H : (if t189 = true then (if (t183 != t188) = true then (apogeelaw17_FallTells.j0 k a0 a1 a2 a3 t182 t184 t185 t186 t188 true) else (if (t187 != t188) = true then (apogeelaw17_FallTells.j0 k a0 a1 a2 a3 t182 t184 t185 t186 t188 true) else (if t188 = true then (if a3 ≥ 0 then (apogeelaw17_FallTells.j0 k a0 a1 a2 a3 t182 t184 t185 t186 t188 (t185 != (decide (a3 ≤ 16777216)))) else (apogeelaw17_FallTells.j0 k a0 a1 a2 a3 t182 t184 t185 t186 t188 (t185 != false))) else (apogeelaw17_FallTells.j0 k a0 a1 a2 a3 t182 t184 t185 t186 t188 (t185 != false))))) else (apogeelaw17_FallTells.j0 k a0 a1 a2 a3 t182 t184 t185 t186 t188 true)) = some r := H
  have A13 := bA A130
  clear A130
  by_cases c14 : t189 = true
  subst c14
  rw [if_pos rfl] at H
  by_cases c15 : (t183 != t188) = true
  rw [if_pos c15] at H
  have c15b0 : (t183 != t188) = true := c15
  (try (have c15b1 : decide (t183 = t188) = false := by simpa using c15))
  (try (have c15b2 : (t183 == t188) = false := by simpa using c15))
  (try (have c15b3 : ¬ (t183 = t188) := by simpa using c15))
  clear c15
  (first | rw [c15b0] | (simp only [i64_w, i32_w]; rw [c15b0]) | skip)
  have H' := bA H
  clear H
  rotate_left
  rw [if_neg c15] at H
  have c15b0 : (t183 != t188) = false := by simpa using c15
  (try (have c15b1 : decide (t183 = t188) = true := by simpa using c15))
  (try (have c15b2 : (t183 == t188) = true := by simpa using c15))
  clear c15
  (first | rw [c15b0] | (simp only [i64_w, i32_w]; rw [c15b0]) | skip)
  by_cases c17 : (t187 != t188) = true
  rw [if_pos c17] at H
  have c17b0 : (t187 != t188) = true := c17
  (try (have c17b1 : decide (t187 = t188) = false := by simpa using c17))
  (try (have c17b2 : (t187 == t188) = false := by simpa using c17))
  (try (have c17b3 : ¬ (t187 = t188) := by simpa using c17))
  clear c17
  have H' := bA H
  clear H
  rotate_left
  rw [if_neg c17] at H
  have c17b0 : (t187 != t188) = false := by simpa using c17
  (try (have c17b1 : decide (t187 = t188) = true := by simpa using c17))
  (try (have c17b2 : (t187 == t188) = true := by simpa using c17))
  clear c17
  by_cases c19 : t188 = true
  subst c19
  rw [if_pos rfl] at H
  by_cases c20 : a3 ≥ 0
  rw [if_pos c20] at H
  have c20b0 : decide (0 ≤ a3) = true := decide_eq_true c20
  clear c20
  have H' := bA H
  clear H
  rotate_left
  rw [if_neg c20] at H
  have c20b0 : decide (0 ≤ a3) = false := decide_eq_false c20
  clear c20
  have H' := bA H
  clear H
  rotate_left
  replace c19 := Bool.eq_false_iff.mpr c19
  subst c19
  rw [if_neg (show ¬ (false = true) by decide)] at H
  have H' := bA H
  clear H
  rotate_left
  replace c14 := Bool.eq_false_iff.mpr c14
  subst c14
  rw [if_neg (show ¬ (false = true) by decide)] at H
  have H' := bA H
  clear H
  rotate_left
  all_goals go_wp2_with (first | ((first | ((with_reducible refine gate_callee (f := 11) rfl ?_); refine bC (some 42) Try.func11 #[] ?_) | go_at_call 11); (with_reducible refine (apogeelaw17_awake.calls k  true _ A13.out).mono ?_); rintro e wz0 ⟨rfl, hb⟩; (first | refine ⟨_, rfl, ?_⟩ | skip); have n0_ := bA (bS hb); clear HB; have HB := n0_; clear n0_; (try clear hb); (try clear hb2); (try clear hk); (try clear hi)) | ((first | ((with_reducible refine gate_callee (f := 11) rfl ?_); refine bC (some 42) Try.func11 #[] ?_) | go_at_call 11); (with_reducible refine (apogeelaw17_awake.calls k  false _ A13.out).mono ?_); rintro e wz0 ⟨rfl, hb⟩; (first | refine ⟨_, rfl, ?_⟩ | skip); have n0_ := bA (bS hb); clear HB; have HB := n0_; clear n0_; (try clear hb); (try clear hb2); (try clear hk); (try clear hi)))
  ·go_meet
   case rel => exact ⟨_, (true), (by first | rfl | (simp; done) | (simp [*]; done)), H', ⟨by first | omega | exact Nat.le_refl _⟩, ⟨bX⟩⟩
  ·go_meet
   case rel => exact ⟨_, (true), (by first | rfl | (simp; done) | (simp [*]; done)), H', ⟨by first | omega | exact Nat.le_refl _⟩, ⟨bX⟩⟩
  ·go_meet
   case rel => exact ⟨_, ((t185 != (decide (a3 ≤ 16777216)))), (by first | rfl | (simp; done) | (simp [*]; done)), H', ⟨by first | omega | exact Nat.le_refl _⟩, ⟨bX⟩⟩
  ·go_meet
   case rel => exact ⟨_, ((t185 != false)), (by first | rfl | (simp; done) | (simp [*]; done)), H', ⟨by first | omega | exact Nat.le_refl _⟩, ⟨bX⟩⟩
  ·go_meet
   case rel => exact ⟨_, ((t185 != false)), (by first | rfl | (simp; done) | (simp [*]; done)), H', ⟨by first | omega | exact Nat.le_refl _⟩, ⟨bX⟩⟩
  ·go_meet
   case rel => exact ⟨_, (true), (by first | rfl | (simp; done) | (simp [*]; done)), H', ⟨by first | omega | exact Nat.le_refl _⟩, ⟨bX⟩⟩
 case rest =>
  clear HC9
  try clear c1
  try clear c2
  try clear p2
  try clear c3
  try clear c7
  try clear c8
  try clear c9
  try clear c10
  try clear c11
  try clear c14
  try clear c15
  try clear c15b0
  try clear c15b1
  try clear c15b2
  try clear c17
  try clear c17b0
  try clear c17b1
  try clear c17b2
  try clear c19
  try clear c20
  try clear c20b0
  obtain ⟨kq, x66_8, rfl, HA, HJ8, HB⟩ := hcut
  cases kq with
  | zero => exact absurd HA.out (by simp [apogeelaw17_FallTells.j0])
  | succ kj8 =>
   have H := HA.out
   clear HA
   simp only [apogeelaw17_FallTells.j0] at H
   by_cases c25 : x66_8 = true
   subst c25
   rw [if_pos rfl] at H
   exact absurd H (by simp)
   replace c25 := Bool.eq_false_iff.mpr c25
   subst c25
   rw [if_neg (show ¬ (false = true) by decide)] at H
   by_cases c26 : t188 = true
   subst c26
   rw [if_pos rfl] at H
   replace H := Option.bind_eq_some_iff.mp H
   obtain ⟨t190, A270, H⟩ := H
   replace H : (if t182 = t190 then ((apogeeref17_Top.f a0 a1 a2).bind fun t191 => (if t186 = t191 then (if t185 = true then ((apogeeref17_Above.f a0 a1 a2 a3).bind fun t192 => (some (t184 == t192))) else (if t184 = 0 then (some true) else (none))) else (none))) else (none)) = some r := H
   have A27 := bA A270
   clear A270
   by_cases c28 : t182 = t190
   rw [if_pos c28] at H
   have c28b0 : (t182 == t190) = true := beq_iff_eq.mpr c28
   have c28b1 : (t182 != t190) = false := bne_eq_false_iff_eq.mpr c28
   clear c28
   replace H := Option.bind_eq_some_iff.mp H
   obtain ⟨t191, A290, H⟩ := H
   replace H : (if t186 = t191 then (if t185 = true then ((apogeeref17_Above.f a0 a1 a2 a3).bind fun t192 => (some (t184 == t192))) else (if t184 = 0 then (some true) else (none))) else (none)) = some r := H
   have A29 := bA A290
   clear A290
   by_cases c30 : t186 = t191
   rw [if_pos c30] at H
   have c30b0 : (t186 == t191) = true := beq_iff_eq.mpr c30
   have c30b1 : (t186 != t191) = false := bne_eq_false_iff_eq.mpr c30
   clear c30
   by_cases c31 : t185 = true
   subst c31
   rw [if_pos rfl] at H
   replace H := Option.bind_eq_some_iff.mp H
   obtain ⟨t192, A320, H⟩ := H
   replace H : (some (t184 == t192)) = some r := H
   have A32 := bA A320
   clear A320
   obtain rfl := Option.some.inj H
   rotate_left
   replace c31 := Bool.eq_false_iff.mpr c31
   subst c31
   rw [if_neg (show ¬ (false = true) by decide)] at H
   by_cases c34 : t184 = 0
   rw [if_pos c34] at H
   have c34b0 : (t184 == 0) = true := beq_iff_eq.mpr c34
   have c34b1 : (t184 != 0) = false := bne_eq_false_iff_eq.mpr c34
   clear c34
   obtain rfl := Option.some.inj H
   rotate_left
   rw [if_neg c34] at H
   exact absurd H (by simp)
   rw [if_neg c30] at H
   exact absurd H (by simp)
   rw [if_neg c28] at H
   exact absurd H (by simp)
   replace c26 := Bool.eq_false_iff.mpr c26
   subst c26
   rw [if_neg (show ¬ (false = true) by decide)] at H
   by_cases c36 : t182 = 0
   rw [if_pos c36] at H
   have c36b0 : (t182 == 0) = true := beq_iff_eq.mpr c36
   have c36b1 : (t182 != 0) = false := bne_eq_false_iff_eq.mpr c36
   clear c36
   by_cases c37 : t184 = 0
   rw [if_pos c37] at H
   have c37b0 : (t184 == 0) = true := beq_iff_eq.mpr c37
   have c37b1 : (t184 != 0) = false := bne_eq_false_iff_eq.mpr c37
   clear c37
   obtain rfl := Option.some.inj H
   rotate_left
   rw [if_neg c37] at H
   exact absurd H (by simp)
   rw [if_neg c36] at H
   exact absurd H (by simp)
   all_goals go_wp2_with (first | ((first | ((with_reducible refine gate_callee (f := 12) rfl ?_); refine bC (some 83) Try.func12 #[.int .i64 a0, .int .i64 a1, .int .i64 a2] ?_) | go_at_call 12); (with_reducible refine (apogeeref17_Time.calls kj8 a0 a1 a2 t190 _ A27.out).mono ?_); rintro e w' ⟨rfl, ⟨nd, rfl⟩⟩; (first | refine ⟨_, rfl, ?_⟩ | skip)) | (go_at_call 13; (with_reducible refine (apogeeref17_Top.calls a0 a1 a2 t191 _ A29.out).mono ?_); rintro e wz0 ⟨rfl, hb⟩; have n0_ := bA (bS hb); clear HB; have HB := n0_; clear n0_; (try clear hb); (try clear hb2); (try clear hk); (try clear hi)) | (go_at_call 14; (with_reducible refine (apogeeref17_Above.calls a0 a1 a2 a3 t192 _ A32.out).mono ?_); rintro e w' ⟨rfl, ⟨nd, rfl⟩⟩))
   all_goals (go_ret; exact bF)

/-- THE ONE PURE STATEMENT of apogeelaw17_FallTells: yours. -/
def apogeelaw17_FallTells.Pure : Prop := ∀ (a0 : Int) (a1 : Int) (a2 : Int) (a3 : Int), (Lit.int .i64 a0).wf = true → (Lit.int .i64 a1).wf = true → (Lit.int .i64 a2).wf = true → (Lit.int .i64 a3).wf = true → ∃ k, apogeelaw17_FallTells.f k a0 a1 a2 a3 = some true
theorem apogeelaw17_FallTells.walk (P : apogeelaw17_FallTells.Pure) (a0 : Int) (a1 : Int) (a2 : Int) (a3 : Int) (w : World) (w0 : (Lit.int .i64 a0).wf = true) (w1 : (Lit.int .i64 a1).wf = true) (w2 : (Lit.int .i64 a2).wf = true) (w3 : (Lit.int .i64 a3).wf = true) :
  Calls Try.prog 3 #[.int .i64 a0, .int .i64 a1, .int .i64 a2, .int .i64 a3] w fun e w' => e = .returned (.bool true) ∧ Below w.heap.size w w' := by
 obtain ⟨k, h⟩ := P a0 a1 a2 a3 w0 w1 w2 w3
 refine (apogeelaw17_FallTells.calls k a0 a1 a2 a3 true w h).mono ?_
 rintro e w' ⟨rfl, hd⟩
 exact ⟨rfl, hd⟩

/-! ### point_within: function 38 -/
def point_within.f (a0 : Int) : Option (Bool) := if a0 ≥ (-1099511627776) then (some (decide (a0 ≤ 1099511627776))) else (some false)
set_option maxHeartbeats 8000000 in
set_option maxRecDepth 100000 in
theorem point_within.calls (a0 : Int) (r : Bool) (w : World) (h : point_within.f a0 = some r) :
  Calls Try.prog 38 #[.int .i64 a0] w fun e w' => e = .returned (.bool r) ∧ Drawn0 w w' := by
 have H : (if a0 ≥ (-1099511627776) then (some (decide (a0 ≤ 1099511627776))) else (some false)) = some r := h
 clear h
 by_cases c2 : a0 ≥ (-1099511627776)
 rw [if_pos c2] at H
 have c2b0 : decide ((-1099511627776) ≤ a0) = true := decide_eq_true c2
 clear c2
 obtain rfl := Option.some.inj H
 rotate_left
 rw [if_neg c2] at H
 have c2b0 : decide ((-1099511627776) ≤ a0) = false := decide_eq_false c2
 clear c2
 obtain rfl := Option.some.inj H
 rotate_left
 all_goals go_enter Try.func38, Try.ntmps38
 all_goals go_wp2
 all_goals (go_ret; exact bD)
/-! ### point_Right: function 16 -/
def point_Right.f (a0_0 : Int) (a0_1 : Int) : Option (Bool) := (point_within.f a0_0).bind fun t194 => (if t194 = true then ((point_within.f a0_1).bind fun t195 => (some t195)) else (some false))
set_option maxHeartbeats 8000000 in
set_option maxRecDepth 100000 in
theorem point_Right.calls (a0_0 : Int) (a0_1 : Int) (r : Bool) (w : World) (h : point_Right.f a0_0 a0_1 = some r) :
  Calls Try.prog 16 #[.agg #[.int .i64 a0_0, .int .i64 a0_1]] w fun e w' => e = .returned (.bool r) ∧ Below w.heap.size w w' := by
 have hu31 := Try.underlying31
 have HB := bA (Below.refl w.heap.size w)
 have H : ((point_within.f a0_0).bind fun t194 => (if t194 = true then ((point_within.f a0_1).bind fun t195 => (some t195)) else (some false))) = some r := h
 clear h
 replace H := Option.bind_eq_some_iff.mp H
 obtain ⟨t194, A20, H⟩ := H
 replace H : (if t194 = true then ((point_within.f a0_1).bind fun t195 => (some t195)) else (some false)) = some r := H
 have A2 := bA A20
 clear A20
 by_cases c3 : t194 = true
 subst c3
 rw [if_pos rfl] at H
 replace H := Option.bind_eq_some_iff.mp H
 obtain ⟨t195, A40, H⟩ := H
 replace H : (some t195) = some r := H
 have A4 := bA A40
 clear A40
 obtain rfl := Option.some.inj H
 rotate_left
 replace c3 := Bool.eq_false_iff.mpr c3
 subst c3
 rw [if_neg (show ¬ (false = true) by decide)] at H
 obtain rfl := Option.some.inj H
 rotate_left
 all_goals go_enter Try.func16, Try.ntmps16
 all_goals go_wp2_with (first | ((with_reducible refine gate_dst (N := 1) rfl ?_); refine bE (N := 1) (cs := #[.int .i64 a0_0, .int .i64 a0_1]) (t := 31) ?_; intro gb193 hg wz0 hbox hb; have n0_ := bA (bS hb); have n1_ := bA (hbox); have n2_ := bA ((bZ hg : w.heap.size ≤ gb193)); have n3_ := bA ((bZ hg : w.heap.size ≤ gb193)); clear HB; have HB := n0_; have BK193 := n1_; have GW193 := n2_; have GE193 := n3_; clear n0_ n1_ n2_ n3_; clear hb hbox hg; have hz1 : wz0.cell? ⟨gb193, 0, none⟩ = some (.int .i64 a0_0) := (blk_cell BK193.out 0).trans rfl; have hz2 : wz0.cell? ⟨gb193, 1, none⟩ = some (.int .i64 a0_1) := (blk_cell BK193.out 1).trans rfl; have hz3 := blk_frozen BK193.out 0; have hz4 := blk_frozen BK193.out 1) | ((first | ((with_reducible refine gate_callee (f := 38) rfl ?_); refine bC (some 5) Try.func38 #[.int .i64 a0_0] ?_) | go_at_call 38); (with_reducible refine (point_within.calls a0_0 true _ A2.out).mono ?_); rintro e w' ⟨rfl, ⟨nd, rfl⟩⟩; (first | refine ⟨_, rfl, ?_⟩ | skip)) | (go_at_call 38; (with_reducible refine (point_within.calls a0_1 t195 _ A4.out).mono ?_); rintro e w' ⟨rfl, ⟨nd, rfl⟩⟩) | ((first | ((with_reducible refine gate_callee (f := 38) rfl ?_); refine bC (some 5) Try.func38 #[.int .i64 a0_0] ?_) | go_at_call 38); (with_reducible refine (point_within.calls a0_0 false _ A2.out).mono ?_); rintro e w' ⟨rfl, ⟨nd, rfl⟩⟩; (first | refine ⟨_, rfl, ?_⟩ | skip)))
 all_goals (go_ret; exact bF)
/-! ### point_right_1: function 57 -/
def point_right_1.f (a0_0 : Int) (a0_1 : Int) : Option (Bool) := (point_Right.f a0_0 a0_1).bind fun t197 => (some (!t197))
set_option maxHeartbeats 8000000 in
set_option maxRecDepth 100000 in
theorem point_right_1.calls (a0_0 : Int) (a0_1 : Int) (r : Bool) (w : World) (h : point_right_1.f a0_0 a0_1 = some r) :
  Calls Try.prog 57 #[.agg #[.int .i64 a0_0, .int .i64 a0_1]] w fun e w' => e = .returned (.bool r) ∧ Below w.heap.size w w' := by
 have hu31 := Try.underlying31
 have HB := bA (Below.refl w.heap.size w)
 have H : ((point_Right.f a0_0 a0_1).bind fun t197 => (some (!t197))) = some r := h
 clear h
 replace H := Option.bind_eq_some_iff.mp H
 obtain ⟨t197, A20, H⟩ := H
 replace H : (some (!t197)) = some r := H
 have A2 := bA A20
 clear A20
 obtain rfl := Option.some.inj H
 go_enter Try.func57, Try.ntmps57
 go_wp2_with (first | ((with_reducible refine gate_dst (N := 1) rfl ?_); refine bE (N := 1) (cs := #[.int .i64 a0_0, .int .i64 a0_1]) (t := 31) ?_; intro gb196 hg w3 hbox hb; have n0_ := bA (bS hb); have n1_ := bA (hbox); have n2_ := bA ((bZ hg : w.heap.size ≤ gb196)); have n3_ := bA ((bZ hg : w.heap.size ≤ gb196)); clear HB; have HB := n0_; have BK196 := n1_; have GW196 := n2_; have GE196 := n3_; clear n0_ n1_ n2_ n3_; clear hb hbox hg; have hcz4_0 : w3.cell? ⟨gb196, 0, none⟩ = some (.int .i64 a0_0) := (blk_cell BK196.out 0).trans rfl; have hcz4_1 : w3.cell? ⟨gb196, 1, none⟩ = some (.int .i64 a0_1) := (blk_cell BK196.out 1).trans rfl; have hfz4_0 := blk_frozen BK196.out 0; have hfz4_1 := blk_frozen BK196.out 1) | ((first | ((with_reducible refine gate_callee (f := 16) rfl ?_); refine bC (some 4) Try.func16 #[.agg #[.int .i64 a0_0, .int .i64 a0_1]] ?_) | go_at_call 16); (with_reducible refine (point_Right.calls a0_0 a0_1 t197 _ A2.out).mono ?_); rintro e w5 ⟨rfl, hb⟩; (first | refine ⟨_, rfl, ?_⟩ | skip); have n0_ := bA (bB BK196 hb); have n1_ := bA (bS hb); clear BK196; clear HB; have BK196 := n0_; have HB := n1_; clear n0_ n1_; (try clear hb); (try clear hb2); (try clear hk); (try clear hi)))
 go_ret
 exact bF
end Go.Proofs.Ytlifeghjcgbfnaa.G
