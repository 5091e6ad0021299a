-- Written by a program of this session out of the translation; Lean checks it.
import Derived.Test.YtjmibjmlihmglaaGx0
import Derived.Test.YtjmibjmlihmglaaGx10
import Derived.Test.YtjmibjmlihmglaaGx11
import Derived.Test.YtjmibjmlihmglaaGx12
import Derived.Test.YtjmibjmlihmglaaGx19
namespace Go.Proofs.Ytjmibjmlihmglaa.G
open Go.RowKit Go.Proofs.YtjmibjmlihmglaaW.PrintWords Go.Proofs.YtjmibjmlihmglaaW.PrintLast Go.Proofs.YtjmibjmlihmglaaW.PrintMore
attribute [local go_sem] max2_int min2_int max_two min_two max_three min_three max_four min_four   -- for this text's walks alone
set_option linter.unusedVariables false
set_option linter.unusedSimpArgs false

/-! ### apogeelaw13_RulesWindow: function 5 -/
def apogeelaw13_RulesWindow.j0 : Nat → Bool → List (S30) → Int → Int → Int → Int → Int → Int → Int → Int → Option (Bool)
 | 0, _, _, _, _, _, _, _, _, _, _ => none
 | k + 1, x10, x547000, x547001, x547002, x547003, x547004, x547005, x547006, x547007, x547008 => if x10 = true then ((apogeelaw13_awake.f k).bind fun t549 => (some t549)) else ((rules_Window.f k x547000 x547001 x547002 x547003 x547004 x547005 x547006 x547007 x547008).bind fun t550 => ((apogeeref13_Wrong.f k x547000 x547001 x547002 x547003 x547004 x547005 x547006 x547007 x547008).bind fun t551 => (if t551 = 0 then (if t550 > x547001 then (if t550 > x547002 then (if t550 ≥ 4 then (some (decide (t550 ≤ 102))) else (none)) else (none)) else (none)) else (some (t550 == 0)))))
def apogeelaw13_RulesWindow.f (k : Nat) (l0_0 : List (S30)) (a0_1 : Int) (a0_2 : Int) (a0_3 : Int) (a0_4 : Int) (a0_5 : Int) (a0_6 : Int) (a0_7 : Int) (a0_8 : Int) : Option (Bool) := (apogeelaw13_awake.f k).bind fun t547 => (if t547 = true then ((apogeeref13_Few.f k l0_0 a0_1 a0_2 a0_3 a0_4 a0_5 a0_6 a0_7 a0_8).bind fun t548 => (apogeelaw13_RulesWindow.j0 k (!t548) l0_0 a0_1 a0_2 a0_3 a0_4 a0_5 a0_6 a0_7 a0_8)) else (apogeelaw13_RulesWindow.j0 k true l0_0 a0_1 a0_2 a0_3 a0_4 a0_5 a0_6 a0_7 a0_8))
theorem apogeelaw13_RulesWindow.mono_l : ∀ k, (∀ y0 y1 y2 y3 y4 y5 y6 y7 y8 y9, LeO (apogeelaw13_RulesWindow.j0 k y0 y1 y2 y3 y4 y5 y6 y7 y8 y9) (apogeelaw13_RulesWindow.j0 (k + 1) y0 y1 y2 y3 y4 y5 y6 y7 y8 y9))
 | 0 => fun _ _ _ _ _ _ _ _ _ _ r h => by simp [apogeelaw13_RulesWindow.j0] at h
 | k + 1 => by
  have ih0 := apogeelaw13_RulesWindow.mono_l k
  ·intro y0 y1 y2 y3 y4 y5 y6 y7 y8 y9
   unfold apogeelaw13_RulesWindow.j0
   repeat' first
   | (with_reducible exact ih0 _ _ _ _ _ _ _ _ _ _)
   | (with_reducible exact apogeelaw13_awake.mono _)
   | (with_reducible exact apogeeref13_Few.mono _ _ _ _ _ _ _ _ _ _)
   | (with_reducible exact apogeeref13_Wrong.mono _ _ _ _ _ _ _ _ _ _)
   | (with_reducible exact rules_Window.mono _ _ _ _ _ _ _ _ _ _)
   | (with_reducible exact LeO.refl _)
   | (with_reducible exact LeO.none _)
   | (with_reducible refine LeO.ite ?_ ?_)
   | (with_reducible refine LeO.bind ?_ (fun _ => ?_))
   | exact ih0 _ _ _ _ _ _ _ _ _ _
   | exact apogeelaw13_awake.mono _
   | exact apogeeref13_Few.mono _ _ _ _ _ _ _ _ _ _
   | exact apogeeref13_Wrong.mono _ _ _ _ _ _ _ _ _ _
   | exact rules_Window.mono _ _ _ _ _ _ _ _ _ _
   | exact LeO.none _
   | refine LeO.ite ?_ ?_
   | refine LeO.bind ?_ (fun _ => ?_)
theorem apogeelaw13_RulesWindow.mono : ∀ a0 a1 a2 a3 a4 a5 a6 a7 a8 k, LeO (apogeelaw13_RulesWindow.f k a0 a1 a2 a3 a4 a5 a6 a7 a8) (apogeelaw13_RulesWindow.f (k + 1) a0 a1 a2 a3 a4 a5 a6 a7 a8) := by
 intro a0 a1 a2 a3 a4 a5 a6 a7 a8 k
 have ih0 := apogeelaw13_RulesWindow.mono_l k
 unfold apogeelaw13_RulesWindow.f
 repeat' first
   | (with_reducible exact ih0 _ _ _ _ _ _ _ _ _ _)
   | (with_reducible exact apogeelaw13_awake.mono _)
   | (with_reducible exact apogeeref13_Few.mono _ _ _ _ _ _ _ _ _ _)
   | (with_reducible exact apogeeref13_Wrong.mono _ _ _ _ _ _ _ _ _ _)
   | (with_reducible exact rules_Window.mono _ _ _ _ _ _ _ _ _ _)
   | (with_reducible exact LeO.refl _)
   | (with_reducible exact LeO.none _)
   | (with_reducible refine LeO.ite ?_ ?_)
   | (with_reducible refine LeO.bind ?_ (fun _ => ?_))
   | exact ih0 _ _ _ _ _ _ _ _ _ _
   | exact apogeelaw13_awake.mono _
   | exact apogeeref13_Few.mono _ _ _ _ _ _ _ _ _ _
   | exact apogeeref13_Wrong.mono _ _ _ _ _ _ _ _ _ _
   | exact rules_Window.mono _ _ _ _ _ _ _ _ _ _
   | exact LeO.none _
   | refine LeO.ite ?_ ?_
   | refine LeO.bind ?_ (fun _ => ?_)
set_option maxHeartbeats 8000000 in
set_option maxRecDepth 100000 in
theorem apogeelaw13_RulesWindow.calls (k : Nat) (A0_0 : Option Addr) (c0_0 : Nat) (l0_0 : List (S30)) (a0_1 : Int) (a0_2 : Int) (a0_3 : Int) (a0_4 : Int) (a0_5 : Int) (a0_6 : Int) (a0_7 : Int) (a0_8 : Int) (r : Bool) (w : World) (hr0_0 : Kd.C k30 w A0_0 l0_0.length l0_0) (hc0_0 : l0_0.length ≤ c0_0) (h : apogeelaw13_RulesWindow.f k l0_0 a0_1 a0_2 a0_3 a0_4 a0_5 a0_6 a0_7 a0_8 = some r) :
  Calls Try.prog 5 #[.agg #[.slice A0_0 l0_0.length c0_0, .int .i64 a0_1, .int .i64 a0_2, .int .i64 a0_3, .int .i64 a0_4, .int .i64 a0_5, .int .i64 a0_6, .int .i64 a0_7, .int .i64 a0_8]] w fun e w' => e = .returned (.bool r) ∧ Below w.heap.size w w' := by
 have hu24 := Try.underlying24
 have HR0_0 := bA hr0_0
 have HC0_0 := bA hc0_0
 clear hr0_0 hc0_0
 have HB := bA (Below.refl w.heap.size w)
 have H : ((apogeelaw13_awake.f k).bind fun t547 => (if t547 = true then ((apogeeref13_Few.f k l0_0 a0_1 a0_2 a0_3 a0_4 a0_5 a0_6 a0_7 a0_8).bind fun t548 => (apogeelaw13_RulesWindow.j0 k (!t548) l0_0 a0_1 a0_2 a0_3 a0_4 a0_5 a0_6 a0_7 a0_8)) else (apogeelaw13_RulesWindow.j0 k true l0_0 a0_1 a0_2 a0_3 a0_4 a0_5 a0_6 a0_7 a0_8))) = some r := h
 clear h
 have HC2 := bA H
 clear H
 go_enter Try.func5, Try.ntmps5
 go_upto_region 1 with (first | ((with_reducible refine gate_dst (N := 1) rfl ?_); refine bE (N := 1) (cs := #[.slice A0_0 l0_0.length c0_0, .int .i64 a0_1, .int .i64 a0_2, .int .i64 a0_3, .int .i64 a0_4, .int .i64 a0_5, .int .i64 a0_6, .int .i64 a0_7, .int .i64 a0_8]) (t := 24) ?_; intro gb546 hg w3 hbox hb; have n0_ := bA (bS hb); have n1_ := bA (hbox); have n2_ := bA (bZ hg); have n3_ := bA (bZ hg); clear HB; have HB := n0_; have BK546 := n1_; have GW546 := n2_; have GE546 := n3_; clear n0_ n1_ n2_ n3_; clear hb hbox hg))
 (try simp only [Act.put, List.setIfInBounds_toArray, List.set_cons_zero, List.set_cons_succ])
 go_cut [10] (fun v10 wc => ∃ (kq : Nat) (x10_1 : Bool), v10 = .bool x10_1 ∧ Aside0 (apogeelaw13_RulesWindow.j0 kq x10_1 l0_0 a0_1 a0_2 a0_3 a0_4 a0_5 a0_6 a0_7 a0_8 = some r) ∧ Aside0 (kq ≤ k) ∧ Aside0 (wc.heap[gb546]? = some (.cells #[(.slice A0_0 l0_0.length c0_0), .int .i64 a0_1, .int .i64 a0_2, .int .i64 a0_3, .int .i64 a0_4, .int .i64 a0_5, .int .i64 a0_6, .int .i64 a0_7, .int .i64 a0_8] 24 (0, 0))) ∧ Aside0 (Below w.heap.size w wc))
 case first =>
  have H := HC2.out
  clear HC2
  replace H := Option.bind_eq_some_iff.mp H
  obtain ⟨t547, A40, H⟩ := H
  replace H : (if t547 = true then ((apogeeref13_Few.f k l0_0 a0_1 a0_2 a0_3 a0_4 a0_5 a0_6 a0_7 a0_8).bind fun t548 => (apogeelaw13_RulesWindow.j0 k (!t548) l0_0 a0_1 a0_2 a0_3 a0_4 a0_5 a0_6 a0_7 a0_8)) else (apogeelaw13_RulesWindow.j0 k true l0_0 a0_1 a0_2 a0_3 a0_4 a0_5 a0_6 a0_7 a0_8)) = some r := H
  have A4 := bA A40
  clear A40
  by_cases c5 : t547 = true
  subst c5
  rw [if_pos rfl] at H
  replace H := Option.bind_eq_some_iff.mp H
  obtain ⟨t548, A60, H⟩ := H
  replace H : (apogeelaw13_RulesWindow.j0 k (!t548) l0_0 a0_1 a0_2 a0_3 a0_4 a0_5 a0_6 a0_7 a0_8) = some r := H
  have A6 := bA A60
  clear A60
  have H' := bA H
  clear H
  rotate_left
  replace c5 := Bool.eq_false_iff.mpr c5
  subst c5
  rw [if_neg bn] at H
  have H' := bA H
  clear H
  rotate_left
  all_goals go_wp2_with (first | ((first | ((with_reducible refine gate_callee (f := 14) rfl ?_); refine bC (some 4) Try.func14 #[] ?_) | go_at_call 14); (with_reducible refine (apogeelaw13_awake.calls k  true _ A4.out).mono ?_); rintro e wz0 ⟨rfl, hb⟩; (first | refine ⟨_, rfl, ?_⟩ | skip); replace BK546 := bA (bB BK546 hb); replace HB := bA (bS hb); (try clear hb); obtain ⟨hz1, hz2, hz3, hz4, hz5, hz6, hz7, hz8, hz9, hz10, hz11, hz12, hz13, hz14, hz15, hz16, hz17, hz18⟩ := bc9 BK546) | (go_at_call 15; (with_reducible refine (apogeeref13_Few.calls k _ _ l0_0 a0_1 a0_2 a0_3 a0_4 a0_5 a0_6 a0_7 a0_8 t548 _ ?side1 ?side2 A6.out).mono ?_); (case side1 => exact bQ HR0_0); (case side2 => exact HC0_0.out); rintro e wz1 ⟨rfl, hb⟩; replace BK546 := bA (bB BK546 hb); replace HB := bA (bS hb); (try clear hb)) | ((first | ((with_reducible refine gate_callee (f := 14) rfl ?_); refine bC (some 4) Try.func14 #[] ?_) | go_at_call 14); (with_reducible refine (apogeelaw13_awake.calls k  false _ A4.out).mono ?_); rintro e wz0 ⟨rfl, hb⟩; (first | refine ⟨_, rfl, ?_⟩ | skip); replace BK546 := bA (bB BK546 hb); replace HB := bA (bS hb); (try clear hb)))
  ·go_meet
   case rel => exact ⟨_, (!t548), bs, H', ⟨by first | omega | exact Nat.le_refl _⟩, ⟨by (with_reducible repeat (first | refine blk_drewN ?_ _ | refine blk_drew ?_ | refine blk_alloc ?_ _)); exact BK546.out⟩, ⟨bX⟩⟩
  go_meet
  case rel => exact ⟨_, (true), bs, H', ⟨by first | omega | exact Nat.le_refl _⟩, ⟨by (with_reducible repeat (first | refine blk_drewN ?_ _ | refine blk_drew ?_ | refine blk_alloc ?_ _)); exact BK546.out⟩, ⟨bX⟩⟩
 clear HC2
 try clear c1
 try clear p2
 try clear c5
 try clear hcz8_0
 try clear hcz8_1
 try clear hcz8_2
 try clear hcz8_3
 try clear hcz8_4
 try clear hcz8_5
 try clear hcz8_6
 try clear hcz8_7
 try clear hcz8_8
 try clear hfz8_0
 try clear hfz8_1
 try clear hfz8_2
 try clear hfz8_3
 try clear hfz8_4
 try clear hfz8_5
 try clear hfz8_6
 try clear hfz8_7
 try clear hfz8_8
 obtain ⟨kq, x10_1, rfl, HA, HJ1, BK546, HB⟩ := hcut
 cases kq with
 | zero => exact absurd HA.out (by simp [apogeelaw13_RulesWindow.j0])
 | succ kj1 =>
  have H := HA.out
  clear HA
  simp only [apogeelaw13_RulesWindow.j0] at H
  by_cases c11 : x10_1 = true
  subst c11
  rw [if_pos rfl] at H
  replace H := Option.bind_eq_some_iff.mp H
  obtain ⟨t549, A120, H⟩ := H
  replace H : (some t549) = some r := H
  have A12 := bA A120
  clear A120
  obtain rfl := Option.some.inj H
  rotate_left
  replace c11 := Bool.eq_false_iff.mpr c11
  subst c11
  rw [if_neg bn] at H
  replace H := Option.bind_eq_some_iff.mp H
  obtain ⟨t550, A140, H⟩ := H
  replace H : ((apogeeref13_Wrong.f kj1 l0_0 a0_1 a0_2 a0_3 a0_4 a0_5 a0_6 a0_7 a0_8).bind fun t551 => (if t551 = 0 then (if t550 > a0_1 then (if t550 > a0_2 then (if t550 ≥ 4 then (some (decide (t550 ≤ 102))) else (none)) else (none)) else (none)) else (some (t550 == 0)))) = some r := H
  have A14 := bA A140
  clear A140
  replace H := Option.bind_eq_some_iff.mp H
  obtain ⟨t551, A150, H⟩ := H
  replace H : (if t551 = 0 then (if t550 > a0_1 then (if t550 > a0_2 then (if t550 ≥ 4 then (some (decide (t550 ≤ 102))) else (none)) else (none)) else (none)) else (some (t550 == 0))) = some r := H
  have A15 := bA A150
  clear A150
  by_cases c16 : t551 = 0
  rw [if_pos c16] at H
  have c16b0 : (t551 == 0) = true := beq_iff_eq.mpr c16
  have c16b1 : (t551 != 0) = false := bne_eq_false_iff_eq.mpr c16
  clear c16
  by_cases c17 : t550 > a0_1
  rw [if_pos c17] at H
  have c17b0 : decide (a0_1 < t550) = true := decide_eq_true c17
  clear c17
  by_cases c18 : t550 > a0_2
  rw [if_pos c18] at H
  have c18b0 : decide (a0_2 < t550) = true := decide_eq_true c18
  clear c18
  by_cases c19 : t550 ≥ 4
  rw [if_pos c19] at H
  have c19b0 : decide (4 ≤ t550) = true := decide_eq_true c19
  clear c19
  obtain rfl := Option.some.inj H
  obtain ⟨hcz20_0, hcz20_1, hcz20_2, hcz20_3, hcz20_4, hcz20_5, hcz20_6, hcz20_7, hcz20_8, hfz20_0, hfz20_1, hfz20_2, hfz20_3, hfz20_4, hfz20_5, hfz20_6, hfz20_7, hfz20_8⟩ := bc9 BK546
  rotate_left
  rw [if_neg c19] at H
  exact absurd H (by simp)
  rw [if_neg c18] at H
  exact absurd H (by simp)
  rw [if_neg c17] at H
  exact absurd H (by simp)
  rw [if_neg c16] at H
  have c16b0 : (t551 == 0) = false := beq_eq_false_iff_ne.mpr c16
  have c16b1 : (t551 != 0) = true := bne_iff_ne.mpr c16
  obtain rfl := Option.some.inj H
  obtain ⟨hcz25_0, hcz25_1, hcz25_2, hcz25_3, hcz25_4, hcz25_5, hcz25_6, hcz25_7, hcz25_8, hfz25_0, hfz25_1, hfz25_2, hfz25_3, hfz25_4, hfz25_5, hfz25_6, hfz25_7, hfz25_8⟩ := bc9 BK546
  rotate_left
  all_goals go_wp2_with (first | ((first | ((with_reducible refine gate_callee (f := 14) rfl ?_); refine bC (some 11) Try.func14 #[] ?_) | go_at_call 14); (with_reducible refine (apogeelaw13_awake.calls kj1  t549 _ A12.out).mono ?_); rintro e wz0 ⟨rfl, hb⟩; (first | refine ⟨_, rfl, ?_⟩ | skip); replace BK546 := bA (bB BK546 hb); replace HB := bA (bS hb); (try clear hb)) | ((first | ((with_reducible refine gate_callee (f := 20) rfl ?_); refine bC (some 13) Try.func20 #[.agg #[.slice A0_0 l0_0.length c0_0, .int .i64 a0_1, .int .i64 a0_2, .int .i64 a0_3, .int .i64 a0_4, .int .i64 a0_5, .int .i64 a0_6, .int .i64 a0_7, .int .i64 a0_8]] ?_) | go_at_call 20); (with_reducible refine (rules_Window.calls kj1 _ _ l0_0 a0_1 a0_2 a0_3 a0_4 a0_5 a0_6 a0_7 a0_8 t550 _ ?side1 ?side2 A14.out).mono ?_); (case side1 => exact bQ HR0_0); (case side2 => exact HC0_0.out); rintro e wz0 ⟨rfl, hb⟩; (first | refine ⟨_, rfl, ?_⟩ | skip); replace BK546 := bA (bB BK546 hb); replace HB := bA (bS hb); (try clear hb); obtain ⟨hz1, hz2, hz3, hz4, hz5, hz6, hz7, hz8, hz9, hz10, hz11, hz12, hz13, hz14, hz15, hz16, hz17, hz18⟩ := bc9 BK546) | ((first | ((with_reducible refine gate_callee (f := 16) rfl ?_); refine bC (some 15) Try.func16 #[.agg #[.slice A0_0 l0_0.length c0_0, .int .i64 a0_1, .int .i64 a0_2, .int .i64 a0_3, .int .i64 a0_4, .int .i64 a0_5, .int .i64 a0_6, .int .i64 a0_7, .int .i64 a0_8]] ?_) | go_at_call 16); (with_reducible refine (apogeeref13_Wrong.calls kj1 _ _ l0_0 a0_1 a0_2 a0_3 a0_4 a0_5 a0_6 a0_7 a0_8 t551 _ ?side1 ?side2 A15.out).mono ?_); (case side1 => exact bQ HR0_0); (case side2 => exact HC0_0.out); rintro e wz1 ⟨rfl, hb⟩; (first | refine ⟨_, rfl, ?_⟩ | skip); replace BK546 := bA (bB BK546 hb); replace HB := bA (bS hb); (try clear hb); obtain ⟨hz19, hz20, hz21, hz22, hz23, hz24, hz25, hz26, hz27, hz10, hz11, hz12, hz13, hz14, hz15, hz16, hz17, hz18⟩ := bc9 BK546))
  all_goals (go_ret; exact bF)
end Go.Proofs.Ytjmibjmlihmglaa.G
