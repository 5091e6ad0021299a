-- Written by a program of this session out of the translation; Lean checks it.
import Derived.Test.YtjmibjmlihmglaaGx0
import Derived.Test.YtjmibjmlihmglaaGx18
namespace Go.Proofs.Ytjmibjmlihmglaa.G
open Go.RowKit Go.Proofs.YtjmibjmlihmglaaW.PrintWords Go.Proofs.YtjmibjmlihmglaaW.PrintLast Go.Proofs.YtjmibjmlihmglaaW.PrintMore
attribute [local go_sem] max2_int min2_int max_two min_two max_three min_three max_four min_four   -- for this text's walks alone
set_option linter.unusedVariables false
set_option linter.unusedSimpArgs false

/-! ### apogeeref13_Wrong: function 16 -/
mutual
def apogeeref13_Wrong.j0 : Nat → Bool → List (S30) → Int → Int → Int → Int → Int → Int → Int → Int → Option (Int)
 | 0, _, _, _, _, _, _, _, _, _, _ => none
 | k + 1, x13, x473000, x473001, x473002, x473003, x473004, x473005, x473006, x473007, x473008 => if x13 = true then (some 1) else (apogeeref13_Wrong.l0 k 0 x473000 x473001 x473002 x473003 x473004 x473005 x473006 x473007 x473008)
def apogeeref13_Wrong.l0 : Nat → Int → List (S30) → Int → Int → Int → Int → Int → Int → Int → Int → Option (Int)
 | 0, _, _, _, _, _, _, _, _, _, _ => none
 | k + 1, x3, x473000, x473001, x473002, x473003, x473004, x473005, x473006, x473007, x473008 => if x3 < (x473000.length : Int) then (if 0 ≤ x3 then ((apogeeref13_RightPhase.f k ((rd_T30 x473000 x3).f0) ((rd_T30 x473000 x3).f1) ((rd_T30 x473000 x3).f2) ((rd_T30 x473000 x3).f3) ((rd_T30 x473000 x3).f4)).bind fun t474 => (if t474 = true then (apogeeref13_Wrong.l0 k (wrap64 (x3 + 1)) x473000 x473001 x473002 x473003 x473004 x473005 x473006 x473007 x473008) else (some 2))) else (none)) else ((apogeeref13_within.f x473001 1 50).bind fun t475 => (if t475 = true then ((apogeeref13_within.f x473002 1 50).bind fun t476 => (if t476 = true then ((apogeeref13_within.f x473003 1 50).bind fun t477 => (apogeeref13_Wrong.j2 k (!t477) x473000 x473001 x473002 x473003 x473004 x473005 x473006 x473007 x473008)) else (apogeeref13_Wrong.j2 k true x473000 x473001 x473002 x473003 x473004 x473005 x473006 x473007 x473008))) else (apogeeref13_Wrong.j2 k true x473000 x473001 x473002 x473003 x473004 x473005 x473006 x473007 x473008)))
def apogeeref13_Wrong.j2 : Nat → Bool → List (S30) → Int → Int → Int → Int → Int → Int → Int → Int → Option (Int)
 | 0, _, _, _, _, _, _, _, _, _, _ => none
 | k + 1, x28, x473000, x473001, x473002, x473003, x473004, x473005, x473006, x473007, x473008 => if x28 = true then (some 3) else ((apogeeref13_within.f x473004 0 1024).bind fun t478 => (if t478 = true then ((apogeeref13_within.f x473005 1 65536).bind fun t479 => (if t479 = true then ((apogeeref13_within.f x473006 1 50).bind fun t480 => (if t480 = true then ((apogeeref13_within.f x473007 1 1073741824).bind fun t481 => (if t481 = true then ((apogeeref13_within.f x473008 0 (x473000.length : Int)).bind fun t482 => (if t482 = true then (some 0) else (some 8))) else (some 7))) else (some 6))) else (some 5))) else (some 4)))
end
def apogeeref13_Wrong.f (k : Nat) (l0_0 : List (S30)) (a0_1 : Int) (a0_2 : Int) (a0_3 : Int) (a0_4 : Int) (a0_5 : Int) (a0_6 : Int) (a0_7 : Int) (a0_8 : Int) : Option (Int) := if (l0_0.length : Int) < 1 then (apogeeref13_Wrong.j0 k true l0_0 a0_1 a0_2 a0_3 a0_4 a0_5 a0_6 a0_7 a0_8) else (apogeeref13_Wrong.j0 k (decide ((l0_0.length : Int) > 4)) l0_0 a0_1 a0_2 a0_3 a0_4 a0_5 a0_6 a0_7 a0_8)
theorem apogeeref13_Wrong.mono_l : ∀ k, (∀ y0 y1 y2 y3 y4 y5 y6 y7 y8 y9, LeO (apogeeref13_Wrong.j0 k y0 y1 y2 y3 y4 y5 y6 y7 y8 y9) (apogeeref13_Wrong.j0 (k + 1) y0 y1 y2 y3 y4 y5 y6 y7 y8 y9)) ∧ (∀ y0 y1 y2 y3 y4 y5 y6 y7 y8 y9, LeO (apogeeref13_Wrong.l0 k y0 y1 y2 y3 y4 y5 y6 y7 y8 y9) (apogeeref13_Wrong.l0 (k + 1) y0 y1 y2 y3 y4 y5 y6 y7 y8 y9)) ∧ (∀ y0 y1 y2 y3 y4 y5 y6 y7 y8 y9, LeO (apogeeref13_Wrong.j2 k y0 y1 y2 y3 y4 y5 y6 y7 y8 y9) (apogeeref13_Wrong.j2 (k + 1) y0 y1 y2 y3 y4 y5 y6 y7 y8 y9))
 | 0 => ⟨fun _ _ _ _ _ _ _ _ _ _ r h => by simp [apogeeref13_Wrong.j0] at h, fun _ _ _ _ _ _ _ _ _ _ r h => by simp [apogeeref13_Wrong.l0] at h, fun _ _ _ _ _ _ _ _ _ _ r h => by simp [apogeeref13_Wrong.j2] at h⟩
 | k + 1 => by
  obtain ⟨ih0, ih1, ih2⟩ := apogeeref13_Wrong.mono_l k
  refine ⟨?_, ?_, ?_⟩
  ·intro y0 y1 y2 y3 y4 y5 y6 y7 y8 y9
   unfold apogeeref13_Wrong.j0
   have m0_ := @apogeeref13_RightPhase.mono
   exact bMo
  ·intro y0 y1 y2 y3 y4 y5 y6 y7 y8 y9
   unfold apogeeref13_Wrong.l0
   have m0_ := @apogeeref13_RightPhase.mono
   exact bMo
  ·intro y0 y1 y2 y3 y4 y5 y6 y7 y8 y9
   unfold apogeeref13_Wrong.j2
   have m0_ := @apogeeref13_RightPhase.mono
   exact bMo
theorem apogeeref13_Wrong.mono : ∀ a0 a1 a2 a3 a4 a5 a6 a7 a8 k, LeO (apogeeref13_Wrong.f k a0 a1 a2 a3 a4 a5 a6 a7 a8) (apogeeref13_Wrong.f (k + 1) a0 a1 a2 a3 a4 a5 a6 a7 a8) := by
 intro a0 a1 a2 a3 a4 a5 a6 a7 a8 k
 obtain ⟨ih0, ih1, ih2⟩ := apogeeref13_Wrong.mono_l k
 unfold apogeeref13_Wrong.f
 have m0_ := @apogeeref13_RightPhase.mono
 exact bMo
set_option maxHeartbeats 8000000 in
set_option maxRecDepth 100000 in
theorem apogeeref13_Wrong.calls (k : Nat) (A0_0 : Option Addr) (c0_0 : Nat) (l0_0 : List (S30)) (a0_1 : Int) (a0_2 : Int) (a0_3 : Int) (a0_4 : Int) (a0_5 : Int) (a0_6 : Int) (a0_7 : Int) (a0_8 : Int) (r : Int) (w : World) (hr0_0 : Kd.C k30 w A0_0 l0_0.length l0_0) (hc0_0 : l0_0.length ≤ c0_0) (h : apogeeref13_Wrong.f k l0_0 a0_1 a0_2 a0_3 a0_4 a0_5 a0_6 a0_7 a0_8 = some r) :
  Calls Try.prog 16 #[.agg #[.slice A0_0 l0_0.length c0_0, .int .i64 a0_1, .int .i64 a0_2, .int .i64 a0_3, .int .i64 a0_4, .int .i64 a0_5, .int .i64 a0_6, .int .i64 a0_7, .int .i64 a0_8]] w fun e w' => e = .returned (.int .i64 r) ∧ Below w.heap.size w w' := by
 have hu24 := Try.underlying24
 have hu30 := Try.underlying30
 have HR0_0 := bA hr0_0
 have HC0_0 := bA hc0_0
 clear hr0_0 hc0_0
 have HB := bA (Below.refl w.heap.size w)
 have H : (if (l0_0.length : Int) < 1 then (apogeeref13_Wrong.j0 k true l0_0 a0_1 a0_2 a0_3 a0_4 a0_5 a0_6 a0_7 a0_8) else (apogeeref13_Wrong.j0 k (decide ((l0_0.length : Int) > 4)) l0_0 a0_1 a0_2 a0_3 a0_4 a0_5 a0_6 a0_7 a0_8)) = some r := h
 clear h
 have HC2 := bA H
 clear H
 go_enter Try.func16, Try.ntmps16
 go_upto_region 1 with (first | ((with_reducible refine gate_dst (N := 1) rfl ?_); (try (refine gate_guard (by rfl) ?_; dsimp only)); refine bE (N := 1) (cs := #[.slice A0_0 l0_0.length c0_0, .int .i64 a0_1, .int .i64 a0_2, .int .i64 a0_3, .int .i64 a0_4, .int .i64 a0_5, .int .i64 a0_6, .int .i64 a0_7, .int .i64 a0_8]) (t := 24) ?_; intro gb472 hg w3 hbox hb; have n0_ := bA (bS hb); have n1_ := bA (hbox); have n2_ := bA (bZ hg); have n3_ := bA (bZ hg); clear HB; have HB := n0_; have BK472 := n1_; have GW472 := n2_; have GE472 := n3_; clear n0_ n1_ n2_ n3_; clear hb hbox hg))
 (try simp only [Act.put, List.setIfInBounds_toArray, List.set_cons_zero, List.set_cons_succ])
 go_cut [13] (fun v13 wc => ∃ (kq : Nat) (x13_1 : Bool), v13 = .bool x13_1 ∧ Aside0 (apogeeref13_Wrong.j0 kq x13_1 l0_0 a0_1 a0_2 a0_3 a0_4 a0_5 a0_6 a0_7 a0_8 = some r) ∧ Aside0 (kq ≤ k) ∧ Aside0 (wc.heap[gb472]? = some (.cells #[(.slice A0_0 l0_0.length c0_0), .int .i64 a0_1, .int .i64 a0_2, .int .i64 a0_3, .int .i64 a0_4, .int .i64 a0_5, .int .i64 a0_6, .int .i64 a0_7, .int .i64 a0_8] 24 (0, 0))) ∧ Aside0 (Below w.heap.size w wc))
 case first =>
  have H := HC2.out
  clear HC2
  by_cases c4 : (l0_0.length : Int) < 1
  rw [if_pos c4] at H
  have c4b0 : decide ((l0_0.length : Int) < 1) = true := decide_eq_true c4
  have c4b1 : decide (l0_0.length < 1) = true := decide_eq_true (by omega)
  clear c4
  (first | rw [c4b0] | (simp only [i64_w, i32_w]; rw [c4b0]) | skip)
  have H' := bA H
  clear H
  obtain ⟨hcz5_0, hcz5_1, hcz5_2, hcz5_3, hcz5_4, hcz5_5, hcz5_6, hcz5_7, hcz5_8, hfz5_0, hfz5_1, hfz5_2, hfz5_3, hfz5_4, hfz5_5, hfz5_6, hfz5_7, hfz5_8⟩ := bc9 BK472
  rotate_left
  rw [if_neg c4] at H
  have c4b0 : decide ((l0_0.length : Int) < 1) = false := decide_eq_false c4
  have c4b1 : decide (l0_0.length < 1) = false := decide_eq_false (by omega)
  clear c4
  (first | rw [c4b0] | (simp only [i64_w, i32_w]; rw [c4b0]) | skip)
  have H' := bA H
  clear H
  obtain ⟨hcz6_0, hcz6_1, hcz6_2, hcz6_3, hcz6_4, hcz6_5, hcz6_6, hcz6_7, hcz6_8, hfz6_0, hfz6_1, hfz6_2, hfz6_3, hfz6_4, hfz6_5, hfz6_6, hfz6_7, hfz6_8⟩ := bc9 BK472
  rotate_left
  all_goals go_wp2
  ·go_meet
   case rel => exact ⟨_, (true), bs, H', ⟨by first | omega | exact Nat.le_refl _⟩, ⟨by (with_reducible repeat (first | refine blk_drewN ?_ _ | refine blk_drew ?_ | refine blk_alloc ?_ _)); exact BK472.out⟩, ⟨bX⟩⟩
  go_meet
  case rel => exact ⟨_, (decide ((l0_0.length : Int) > 4)), bs, H', ⟨by first | omega | exact Nat.le_refl _⟩, ⟨by (with_reducible repeat (first | refine blk_drewN ?_ _ | refine blk_drew ?_ | refine blk_alloc ?_ _)); exact BK472.out⟩, ⟨bX⟩⟩
 clear HC2
 try clear c1
 try clear p2
 try clear c4
 try clear c4b0
 try clear c4b1
 try clear hcz5_0
 try clear hcz5_1
 try clear hcz5_2
 try clear hcz5_3
 try clear hcz5_4
 try clear hcz5_5
 try clear hcz5_6
 try clear hcz5_7
 try clear hcz5_8
 try clear hcz6_0
 try clear hcz6_1
 try clear hcz6_2
 try clear hcz6_3
 try clear hcz6_4
 try clear hcz6_5
 try clear hcz6_6
 try clear hcz6_7
 try clear hcz6_8
 try clear hfz5_0
 try clear hfz5_1
 try clear hfz5_2
 try clear hfz5_3
 try clear hfz5_4
 try clear hfz5_5
 try clear hfz5_6
 try clear hfz5_7
 try clear hfz5_8
 try clear hfz6_0
 try clear hfz6_1
 try clear hfz6_2
 try clear hfz6_3
 try clear hfz6_4
 try clear hfz6_5
 try clear hfz6_6
 try clear hfz6_7
 try clear hfz6_8
 obtain ⟨kq, x13_1, rfl, HA, HJ1, BK472, HB⟩ := hcut
 cases kq with
 | zero => exact absurd HA.out (by simp [apogeeref13_Wrong.j0])
 | succ kj1 =>
  have H := HA.out
  clear HA
  simp only [apogeeref13_Wrong.j0] at H
  by_cases c7 : x13_1 = true
  ·subst c7
   rw [if_pos rfl] at H
   obtain rfl := Option.some.inj H
   go_wp2
   go_ret
   exact bF
  replace c7 := Bool.eq_false_iff.mpr c7
  subst c7
  rw [if_neg bn] at H
  have H' := bA H
  clear H
  go_wp2
  go_loopg [3] kj1 (fun kq v3 w' => ∃ (x3_2 : Int), v3 = .int .i64 x3_2 ∧ Aside0 (apogeeref13_Wrong.l0 kq x3_2 l0_0 a0_1 a0_2 a0_3 a0_4 a0_5 a0_6 a0_7 a0_8 = some r) ∧ Aside0 (kq ≤ kj1) ∧ Aside0 (w'.heap[gb472]? = some (.cells #[(.slice A0_0 l0_0.length c0_0), .int .i64 a0_1, .int .i64 a0_2, .int .i64 a0_3, .int .i64 a0_4, .int .i64 a0_5, .int .i64 a0_6, .int .i64 a0_7, .int .i64 a0_8] 24 (0, 0))) ∧ Aside0 (Below w.heap.size w w'))
  case atStart => exact ⟨(0), bs, H', ⟨Nat.le_refl _⟩, ⟨by (with_reducible repeat (first | refine blk_drewN ?_ _ | refine blk_drew ?_ | refine blk_alloc ?_ _)); exact BK472.out⟩, ⟨bX⟩⟩
  clear H'
  try clear c1
  try clear p2
  try clear c4
  try clear c4b0
  try clear c4b1
  try clear c7
  try clear hcz5_0
  try clear hcz5_1
  try clear hcz5_2
  try clear hcz5_3
  try clear hcz5_4
  try clear hcz5_5
  try clear hcz5_6
  try clear hcz5_7
  try clear hcz5_8
  try clear hcz6_0
  try clear hcz6_1
  try clear hcz6_2
  try clear hcz6_3
  try clear hcz6_4
  try clear hcz6_5
  try clear hcz6_6
  try clear hcz6_7
  try clear hcz6_8
  try clear hfz5_0
  try clear hfz5_1
  try clear hfz5_2
  try clear hfz5_3
  try clear hfz5_4
  try clear hfz5_5
  try clear hfz5_6
  try clear hfz5_7
  try clear hfz5_8
  try clear hfz6_0
  try clear hfz6_1
  try clear hfz6_2
  try clear hfz6_3
  try clear hfz6_4
  try clear hfz6_5
  try clear hfz6_6
  try clear hfz6_7
  try clear hfz6_8
  try clear p2
  obtain ⟨x3_2, rfl, HA, HK2, BK472, HB⟩ := hrel
  cases gk with
  | zero => exact absurd HA.out (by simp [apogeeref13_Wrong.l0])
  | succ k2 =>
   have H := HA.out
   clear HA
   simp only [apogeeref13_Wrong.l0] at H
   by_cases c8 : x3_2 < (l0_0.length : Int)
   ·rw [if_pos c8] at H
    have c8b0 : decide (x3_2 < (l0_0.length : Int)) = true := decide_eq_true c8
    clear c8
    by_cases c9 : 0 ≤ x3_2
    rw [if_pos c9] at H
    have c9b0 : decide (0 ≤ x3_2) = true := decide_eq_true c9
    clear c9
    replace H := Option.bind_eq_some_iff.mp H
    obtain ⟨t474, A100, H⟩ := H
    have A10 := bA A100
    clear A100
    by_cases c11 : t474 = true
    subst c11
    rw [if_pos rfl] at H
    have H' := bA H
    clear H
    obtain ⟨hcz12_0, hcz12_1, hcz12_2, hcz12_3, hcz12_4, hcz12_5, hcz12_6, hcz12_7, hcz12_8, hfz12_0, hfz12_1, hfz12_2, hfz12_3, hfz12_4, hfz12_5, hfz12_6, hfz12_7, hfz12_8⟩ := bc9 BK472
    have p473 : 0 ≤ (x3_2 : Int) := bo
    have q473 : x3_2 < (l0_0.length : Int) := bo
    obtain ⟨ad473, A473_0, c473_0, e473, hx473_0, hx473_1, hx473_2, hx473_3, hx473_4, hl473_0, hi473_0⟩ := at_T30 HR0_0.out x3_2 p473 q473
    cases e473
    replace hx473_0 := bK hx473_0
    replace hx473_1 := bK hx473_1
    replace hx473_2 := bK hx473_2
    replace hx473_3 := bK hx473_3
    replace hx473_4 := bK hx473_4
    have HR473_0 := bA hi473_0
    have HC473_0 := bA hl473_0
    clear hi473_0 hl473_0
    replace p473 := eq_true p473
    replace q473 := eq_true q473
    rotate_left
    replace c11 := Bool.eq_false_iff.mpr c11
    subst c11
    rw [if_neg bn] at H
    obtain rfl := Option.some.inj H
    obtain ⟨hcz14_0, hcz14_1, hcz14_2, hcz14_3, hcz14_4, hcz14_5, hcz14_6, hcz14_7, hcz14_8, hfz14_0, hfz14_1, hfz14_2, hfz14_3, hfz14_4, hfz14_5, hfz14_6, hfz14_7, hfz14_8⟩ := bc9 BK472
    have p473 : 0 ≤ (x3_2 : Int) := bo
    have q473 : x3_2 < (l0_0.length : Int) := bo
    obtain ⟨ad473, A473_0, c473_0, e473, hx473_0, hx473_1, hx473_2, hx473_3, hx473_4, hl473_0, hi473_0⟩ := at_T30 HR0_0.out x3_2 p473 q473
    cases e473
    replace hx473_0 := bK hx473_0
    replace hx473_1 := bK hx473_1
    replace hx473_2 := bK hx473_2
    replace hx473_3 := bK hx473_3
    replace hx473_4 := bK hx473_4
    have HR473_0 := bA hi473_0
    have HC473_0 := bA hl473_0
    clear hi473_0 hl473_0
    replace p473 := eq_true p473
    replace q473 := eq_true q473
    rotate_left
    rw [if_neg c9] at H
    exact absurd H (by simp)
    all_goals go_wp2_with (first | ((first | ((with_reducible refine gate_callee (f := 23) rfl ?_); refine bC (some 26) Try.func23 #[.agg #[.slice A473_0 ((rd_T30 l0_0 x3_2).f0).length c473_0, .int .i64 ((rd_T30 l0_0 x3_2).f1), .int .i64 ((rd_T30 l0_0 x3_2).f2), .int .i64 ((rd_T30 l0_0 x3_2).f3), .int .i64 ((rd_T30 l0_0 x3_2).f4)]] ?_) | go_at_call 23); (with_reducible refine (apogeeref13_RightPhase.calls k2 _ _ ((rd_T30 l0_0 x3_2).f0) ((rd_T30 l0_0 x3_2).f1) ((rd_T30 l0_0 x3_2).f2) ((rd_T30 l0_0 x3_2).f3) ((rd_T30 l0_0 x3_2).f4) true _ ?side1 ?side2 A10.out).mono ?_); (case side1 => exact bQ HR473_0); (case side2 => exact HC473_0.out); rintro e wz0 ⟨rfl, hb⟩; (first | refine ⟨_, rfl, ?_⟩ | skip); replace BK472 := bA (bB BK472 hb); replace HB := bA (bS hb); (try clear hb)) | ((first | ((with_reducible refine gate_callee (f := 23) rfl ?_); refine bC (some 26) Try.func23 #[.agg #[.slice A473_0 ((rd_T30 l0_0 x3_2).f0).length c473_0, .int .i64 ((rd_T30 l0_0 x3_2).f1), .int .i64 ((rd_T30 l0_0 x3_2).f2), .int .i64 ((rd_T30 l0_0 x3_2).f3), .int .i64 ((rd_T30 l0_0 x3_2).f4)]] ?_) | go_at_call 23); (with_reducible refine (apogeeref13_RightPhase.calls k2 _ _ ((rd_T30 l0_0 x3_2).f0) ((rd_T30 l0_0 x3_2).f1) ((rd_T30 l0_0 x3_2).f2) ((rd_T30 l0_0 x3_2).f3) ((rd_T30 l0_0 x3_2).f4) false _ ?side1 ?side2 A10.out).mono ?_); (case side1 => exact bQ HR473_0); (case side2 => exact HC473_0.out); rintro e wz0 ⟨rfl, hb⟩; (first | refine ⟨_, rfl, ?_⟩ | skip); replace BK472 := bA (bB BK472 hb); replace HB := bA (bS hb); (try clear hb)))
    ·go_roundg k2
     case measure => have := HJ1.out; have := HK2.out; omega
     case rel => exact ⟨(wrap64 (x3_2 + 1)), bs, H', ⟨by have := HJ1.out; have := HK2.out; omega⟩, ⟨by (with_reducible repeat (first | refine blk_drewN ?_ _ | refine blk_drew ?_ | refine blk_alloc ?_ _)); exact BK472.out⟩, ⟨bX⟩⟩
    go_ret
    exact bF
   rw [if_neg c8] at H
   have c8b0 : decide (x3_2 < (l0_0.length : Int)) = false := decide_eq_false c8
   clear c8
   have HC16 := bA H
   clear H
   obtain ⟨hcz17_0, hcz17_1, hcz17_2, hcz17_3, hcz17_4, hcz17_5, hcz17_6, hcz17_7, hcz17_8, hfz17_0, hfz17_1, hfz17_2, hfz17_3, hfz17_4, hfz17_5, hfz17_6, hfz17_7, hfz17_8⟩ := bc9 BK472
   go_upto_region 8 with (fail)
   go_cut [28] (fun v28 wc => ∃ (kq : Nat) (x28_15 : Bool), v28 = .bool x28_15 ∧ Aside0 (apogeeref13_Wrong.j2 kq x28_15 l0_0 a0_1 a0_2 a0_3 a0_4 a0_5 a0_6 a0_7 a0_8 = some r) ∧ Aside0 (kq ≤ k2) ∧ Aside0 (wc.heap[gb472]? = some (.cells #[(.slice A0_0 l0_0.length c0_0), .int .i64 a0_1, .int .i64 a0_2, .int .i64 a0_3, .int .i64 a0_4, .int .i64 a0_5, .int .i64 a0_6, .int .i64 a0_7, .int .i64 a0_8] 24 (0, 0))) ∧ Aside0 (Below w.heap.size w wc))
   case first =>
    have H := HC16.out
    clear HC16
    replace H := Option.bind_eq_some_iff.mp H
    obtain ⟨t475, A180, H⟩ := H
    have A18 := bA A180
    clear A180
    by_cases c19 : t475 = true
    subst c19
    rw [if_pos rfl] at H
    replace H := Option.bind_eq_some_iff.mp H
    obtain ⟨t476, A200, H⟩ := H
    have A20 := bA A200
    clear A200
    by_cases c21 : t476 = true
    subst c21
    rw [if_pos rfl] at H
    replace H := Option.bind_eq_some_iff.mp H
    obtain ⟨t477, A220, H⟩ := H
    have A22 := bA A220
    clear A220
    have H' := bA H
    clear H
    obtain ⟨hcz23_0, hcz23_1, hcz23_2, hcz23_3, hcz23_4, hcz23_5, hcz23_6, hcz23_7, hcz23_8, hfz23_0, hfz23_1, hfz23_2, hfz23_3, hfz23_4, hfz23_5, hfz23_6, hfz23_7, hfz23_8⟩ := bc9 BK472
    rotate_left
    replace c21 := Bool.eq_false_iff.mpr c21
    subst c21
    rw [if_neg bn] at H
    have H' := bA H
    clear H
    obtain ⟨hcz24_0, hcz24_1, hcz24_2, hcz24_3, hcz24_4, hcz24_5, hcz24_6, hcz24_7, hcz24_8, hfz24_0, hfz24_1, hfz24_2, hfz24_3, hfz24_4, hfz24_5, hfz24_6, hfz24_7, hfz24_8⟩ := bc9 BK472
    rotate_left
    replace c19 := Bool.eq_false_iff.mpr c19
    subst c19
    rw [if_neg bn] at H
    have H' := bA H
    clear H
    obtain ⟨hcz25_0, hcz25_1, hcz25_2, hcz25_3, hcz25_4, hcz25_5, hcz25_6, hcz25_7, hcz25_8, hfz25_0, hfz25_1, hfz25_2, hfz25_3, hfz25_4, hfz25_5, hfz25_6, hfz25_7, hfz25_8⟩ := bc9 BK472
    rotate_left
    all_goals go_wp2_with (first | ((first | ((with_reducible refine gate_callee (f := 55) rfl ?_); refine bC (some 31) Try.func55 #[.int .i64 a0_1, .int .i64 1, .int .i64 50] ?_) | go_at_call 55); (with_reducible refine (apogeeref13_within.calls a0_1 1 50 true _ A18.out).mono ?_); rintro e w' ⟨rfl, ⟨nd, rfl⟩⟩; (first | refine ⟨_, rfl, ?_⟩ | skip)) | (go_at_call 55; (with_reducible refine (apogeeref13_within.calls a0_2 1 50 true _ A20.out).mono ?_); rintro e w' ⟨rfl, ⟨nd, rfl⟩⟩) | (go_at_call 55; (with_reducible refine (apogeeref13_within.calls a0_3 1 50 t477 _ A22.out).mono ?_); rintro e w' ⟨rfl, ⟨nd, rfl⟩⟩) | (go_at_call 55; (with_reducible refine (apogeeref13_within.calls a0_2 1 50 false _ A20.out).mono ?_); rintro e w' ⟨rfl, ⟨nd, rfl⟩⟩) | ((first | ((with_reducible refine gate_callee (f := 55) rfl ?_); refine bC (some 31) Try.func55 #[.int .i64 a0_1, .int .i64 1, .int .i64 50] ?_) | go_at_call 55); (with_reducible refine (apogeeref13_within.calls a0_1 1 50 false _ A18.out).mono ?_); rintro e w' ⟨rfl, ⟨nd, rfl⟩⟩; (first | refine ⟨_, rfl, ?_⟩ | skip)))
    ·go_meet
     case rel => exact ⟨_, (!t477), bs, H', ⟨by have := HJ1.out; have := HK2.out; first | omega | exact Nat.le_refl _⟩, ⟨by (with_reducible repeat (first | refine blk_drewN ?_ _ | refine blk_drew ?_ | refine blk_alloc ?_ _)); exact BK472.out⟩, ⟨bX⟩⟩
    ·go_meet
     case rel => exact ⟨_, (true), bs, H', ⟨by have := HJ1.out; have := HK2.out; first | omega | exact Nat.le_refl _⟩, ⟨by (with_reducible repeat (first | refine blk_drewN ?_ _ | refine blk_drew ?_ | refine blk_alloc ?_ _)); exact BK472.out⟩, ⟨bX⟩⟩
    go_meet
    case rel => exact ⟨_, (true), bs, H', ⟨by have := HJ1.out; have := HK2.out; first | omega | exact Nat.le_refl _⟩, ⟨by (with_reducible repeat (first | refine blk_drewN ?_ _ | refine blk_drew ?_ | refine blk_alloc ?_ _)); exact BK472.out⟩, ⟨bX⟩⟩
   clear HC16
   try clear c1
   try clear c2
   try clear p2
   try clear c4
   try clear c4b0
   try clear c4b1
   try clear p4
   try clear q4
   try clear hx4
   try clear c5
   try clear p6
   try clear c7
   try clear c8
   try clear c8b0
   try clear c9
   try clear c9b0
   try clear c11
   try clear c16
   try clear c19
   try clear c21
   try clear c23
   try clear hcz12_0
   try clear hcz12_1
   try clear hcz12_2
   try clear hcz12_3
   try clear hcz12_4
   try clear hcz12_5
   try clear hcz12_6
   try clear hcz12_7
   try clear hcz12_8
   try clear hcz14_0
   try clear hcz14_1
   try clear hcz14_2
   try clear hcz14_3
   try clear hcz14_4
   try clear hcz14_5
   try clear hcz14_6
   try clear hcz14_7
   try clear hcz14_8
   try clear hcz17_0
   try clear hcz17_1
   try clear hcz17_2
   try clear hcz17_3
   try clear hcz17_4
   try clear hcz17_5
   try clear hcz17_6
   try clear hcz17_7
   try clear hcz17_8
   try clear hcz23_0
   try clear hcz23_1
   try clear hcz23_2
   try clear hcz23_3
   try clear hcz23_4
   try clear hcz23_5
   try clear hcz23_6
   try clear hcz23_7
   try clear hcz23_8
   try clear hcz24_0
   try clear hcz24_1
   try clear hcz24_2
   try clear hcz24_3
   try clear hcz24_4
   try clear hcz24_5
   try clear hcz24_6
   try clear hcz24_7
   try clear hcz24_8
   try clear hcz25_0
   try clear hcz25_1
   try clear hcz25_2
   try clear hcz25_3
   try clear hcz25_4
   try clear hcz25_5
   try clear hcz25_6
   try clear hcz25_7
   try clear hcz25_8
   try clear hcz5_0
   try clear hcz5_1
   try clear hcz5_2
   try clear hcz5_3
   try clear hcz5_4
   try clear hcz5_5
   try clear hcz5_6
   try clear hcz5_7
   try clear hcz5_8
   try clear hcz6_0
   try clear hcz6_1
   try clear hcz6_2
   try clear hcz6_3
   try clear hcz6_4
   try clear hcz6_5
   try clear hcz6_6
   try clear hcz6_7
   try clear hcz6_8
   try clear hfz12_0
   try clear hfz12_1
   try clear hfz12_2
   try clear hfz12_3
   try clear hfz12_4
   try clear hfz12_5
   try clear hfz12_6
   try clear hfz12_7
   try clear hfz12_8
   try clear hfz14_0
   try clear hfz14_1
   try clear hfz14_2
   try clear hfz14_3
   try clear hfz14_4
   try clear hfz14_5
   try clear hfz14_6
   try clear hfz14_7
   try clear hfz14_8
   try clear hfz17_0
   try clear hfz17_1
   try clear hfz17_2
   try clear hfz17_3
   try clear hfz17_4
   try clear hfz17_5
   try clear hfz17_6
   try clear hfz17_7
   try clear hfz17_8
   try clear hfz23_0
   try clear hfz23_1
   try clear hfz23_2
   try clear hfz23_3
   try clear hfz23_4
   try clear hfz23_5
   try clear hfz23_6
   try clear hfz23_7
   try clear hfz23_8
   try clear hfz24_0
   try clear hfz24_1
   try clear hfz24_2
   try clear hfz24_3
   try clear hfz24_4
   try clear hfz24_5
   try clear hfz24_6
   try clear hfz24_7
   try clear hfz24_8
   try clear hfz25_0
   try clear hfz25_1
   try clear hfz25_2
   try clear hfz25_3
   try clear hfz25_4
   try clear hfz25_5
   try clear hfz25_6
   try clear hfz25_7
   try clear hfz25_8
   try clear hfz5_0
   try clear hfz5_1
   try clear hfz5_2
   try clear hfz5_3
   try clear hfz5_4
   try clear hfz5_5
   try clear hfz5_6
   try clear hfz5_7
   try clear hfz5_8
   try clear hfz6_0
   try clear hfz6_1
   try clear hfz6_2
   try clear hfz6_3
   try clear hfz6_4
   try clear hfz6_5
   try clear hfz6_6
   try clear hfz6_7
   try clear hfz6_8
   try clear hx473_0
   try clear hx473_1
   try clear hx473_2
   try clear hx473_3
   try clear hx473_4
   try clear p2
   try clear p473
   try clear q473
   obtain ⟨kq, x28_15, rfl, HA, HJ15, BK472, HB⟩ := hcut
   cases kq with
   | zero => exact absurd HA.out (by simp [apogeeref13_Wrong.j2])
   | succ kj15 =>
    have H := HA.out
    clear HA
    simp only [apogeeref13_Wrong.j2] at H
    by_cases c26 : x28_15 = true
    subst c26
    rw [if_pos rfl] at H
    obtain rfl := Option.some.inj H
    rotate_left
    replace c26 := Bool.eq_false_iff.mpr c26
    subst c26
    rw [if_neg bn] at H
    replace H := Option.bind_eq_some_iff.mp H
    obtain ⟨t478, A270, H⟩ := H
    have A27 := bA A270
    clear A270
    by_cases c28 : t478 = true
    subst c28
    rw [if_pos rfl] at H
    replace H := Option.bind_eq_some_iff.mp H
    obtain ⟨t479, A290, H⟩ := H
    have A29 := bA A290
    clear A290
    by_cases c30 : t479 = true
    subst c30
    rw [if_pos rfl] at H
    replace H := Option.bind_eq_some_iff.mp H
    obtain ⟨t480, A310, H⟩ := H
    have A31 := bA A310
    clear A310
    by_cases c32 : t480 = true
    subst c32
    rw [if_pos rfl] at H
    replace H := Option.bind_eq_some_iff.mp H
    obtain ⟨t481, A330, H⟩ := H
    have A33 := bA A330
    clear A330
    by_cases c34 : t481 = true
    subst c34
    rw [if_pos rfl] at H
    replace H := Option.bind_eq_some_iff.mp H
    obtain ⟨t482, A350, H⟩ := H
    have A35 := bA A350
    clear A350
    by_cases c36 : t482 = true
    subst c36
    rw [if_pos rfl] at H
    obtain rfl := Option.some.inj H
    obtain ⟨hcz37_0, hcz37_1, hcz37_2, hcz37_3, hcz37_4, hcz37_5, hcz37_6, hcz37_7, hcz37_8, hfz37_0, hfz37_1, hfz37_2, hfz37_3, hfz37_4, hfz37_5, hfz37_6, hfz37_7, hfz37_8⟩ := bc9 BK472
    rotate_left
    replace c36 := Bool.eq_false_iff.mpr c36
    subst c36
    rw [if_neg bn] at H
    obtain rfl := Option.some.inj H
    obtain ⟨hcz38_0, hcz38_1, hcz38_2, hcz38_3, hcz38_4, hcz38_5, hcz38_6, hcz38_7, hcz38_8, hfz38_0, hfz38_1, hfz38_2, hfz38_3, hfz38_4, hfz38_5, hfz38_6, hfz38_7, hfz38_8⟩ := bc9 BK472
    rotate_left
    replace c34 := Bool.eq_false_iff.mpr c34
    subst c34
    rw [if_neg bn] at H
    obtain rfl := Option.some.inj H
    obtain ⟨hcz39_0, hcz39_1, hcz39_2, hcz39_3, hcz39_4, hcz39_5, hcz39_6, hcz39_7, hcz39_8, hfz39_0, hfz39_1, hfz39_2, hfz39_3, hfz39_4, hfz39_5, hfz39_6, hfz39_7, hfz39_8⟩ := bc9 BK472
    rotate_left
    replace c32 := Bool.eq_false_iff.mpr c32
    subst c32
    rw [if_neg bn] at H
    obtain rfl := Option.some.inj H
    obtain ⟨hcz40_0, hcz40_1, hcz40_2, hcz40_3, hcz40_4, hcz40_5, hcz40_6, hcz40_7, hcz40_8, hfz40_0, hfz40_1, hfz40_2, hfz40_3, hfz40_4, hfz40_5, hfz40_6, hfz40_7, hfz40_8⟩ := bc9 BK472
    rotate_left
    replace c30 := Bool.eq_false_iff.mpr c30
    subst c30
    rw [if_neg bn] at H
    obtain rfl := Option.some.inj H
    obtain ⟨hcz41_0, hcz41_1, hcz41_2, hcz41_3, hcz41_4, hcz41_5, hcz41_6, hcz41_7, hcz41_8, hfz41_0, hfz41_1, hfz41_2, hfz41_3, hfz41_4, hfz41_5, hfz41_6, hfz41_7, hfz41_8⟩ := bc9 BK472
    rotate_left
    replace c28 := Bool.eq_false_iff.mpr c28
    subst c28
    rw [if_neg bn] at H
    obtain rfl := Option.some.inj H
    obtain ⟨hcz42_0, hcz42_1, hcz42_2, hcz42_3, hcz42_4, hcz42_5, hcz42_6, hcz42_7, hcz42_8, hfz42_0, hfz42_1, hfz42_2, hfz42_3, hfz42_4, hfz42_5, hfz42_6, hfz42_7, hfz42_8⟩ := bc9 BK472
    rotate_left
    all_goals go_wp2_with (first | ((first | ((with_reducible refine gate_callee (f := 55) rfl ?_); refine bC (some 48) Try.func55 #[.int .i64 a0_4, .int .i64 0, .int .i64 1024] ?_) | go_at_call 55); (with_reducible refine (apogeeref13_within.calls a0_4 0 1024 true _ A27.out).mono ?_); rintro e w' ⟨rfl, ⟨nd, rfl⟩⟩; (first | refine ⟨_, rfl, ?_⟩ | skip)) | ((first | ((with_reducible refine gate_callee (f := 55) rfl ?_); refine bC (some 53) Try.func55 #[.int .i64 a0_5, .int .i64 1, .int .i64 65536] ?_) | go_at_call 55); (with_reducible refine (apogeeref13_within.calls a0_5 1 65536 true _ A29.out).mono ?_); rintro e w' ⟨rfl, ⟨nd, rfl⟩⟩; (first | refine ⟨_, rfl, ?_⟩ | skip)) | ((first | ((with_reducible refine gate_callee (f := 55) rfl ?_); refine bC (some 58) Try.func55 #[.int .i64 a0_6, .int .i64 1, .int .i64 50] ?_) | go_at_call 55); (with_reducible refine (apogeeref13_within.calls a0_6 1 50 true _ A31.out).mono ?_); rintro e w' ⟨rfl, ⟨nd, rfl⟩⟩; (first | refine ⟨_, rfl, ?_⟩ | skip)) | ((first | ((with_reducible refine gate_callee (f := 55) rfl ?_); refine bC (some 63) Try.func55 #[.int .i64 a0_7, .int .i64 1, .int .i64 1073741824] ?_) | go_at_call 55); (with_reducible refine (apogeeref13_within.calls a0_7 1 1073741824 true _ A33.out).mono ?_); rintro e w' ⟨rfl, ⟨nd, rfl⟩⟩; (first | refine ⟨_, rfl, ?_⟩ | skip)) | ((first | ((with_reducible refine gate_callee (f := 55) rfl ?_); refine bC (some 71) Try.func55 #[.int .i64 a0_8, .int .i64 0, .int .i64 (l0_0.length : Int)] ?_) | go_at_call 55); (with_reducible refine (apogeeref13_within.calls a0_8 0 (l0_0.length : Int) true _ A35.out).mono ?_); rintro e w' ⟨rfl, ⟨nd, rfl⟩⟩; (first | refine ⟨_, rfl, ?_⟩ | skip)) | ((first | ((with_reducible refine gate_callee (f := 55) rfl ?_); refine bC (some 71) Try.func55 #[.int .i64 a0_8, .int .i64 0, .int .i64 (l0_0.length : Int)] ?_) | go_at_call 55); (with_reducible refine (apogeeref13_within.calls a0_8 0 (l0_0.length : Int) false _ A35.out).mono ?_); rintro e w' ⟨rfl, ⟨nd, rfl⟩⟩; (first | refine ⟨_, rfl, ?_⟩ | skip)) | ((first | ((with_reducible refine gate_callee (f := 55) rfl ?_); refine bC (some 63) Try.func55 #[.int .i64 a0_7, .int .i64 1, .int .i64 1073741824] ?_) | go_at_call 55); (with_reducible refine (apogeeref13_within.calls a0_7 1 1073741824 false _ A33.out).mono ?_); rintro e w' ⟨rfl, ⟨nd, rfl⟩⟩; (first | refine ⟨_, rfl, ?_⟩ | skip)) | ((first | ((with_reducible refine gate_callee (f := 55) rfl ?_); refine bC (some 58) Try.func55 #[.int .i64 a0_6, .int .i64 1, .int .i64 50] ?_) | go_at_call 55); (with_reducible refine (apogeeref13_within.calls a0_6 1 50 false _ A31.out).mono ?_); rintro e w' ⟨rfl, ⟨nd, rfl⟩⟩; (first | refine ⟨_, rfl, ?_⟩ | skip)) | ((first | ((with_reducible refine gate_callee (f := 55) rfl ?_); refine bC (some 53) Try.func55 #[.int .i64 a0_5, .int .i64 1, .int .i64 65536] ?_) | go_at_call 55); (with_reducible refine (apogeeref13_within.calls a0_5 1 65536 false _ A29.out).mono ?_); rintro e w' ⟨rfl, ⟨nd, rfl⟩⟩; (first | refine ⟨_, rfl, ?_⟩ | skip)) | ((first | ((with_reducible refine gate_callee (f := 55) rfl ?_); refine bC (some 48) Try.func55 #[.int .i64 a0_4, .int .i64 0, .int .i64 1024] ?_) | go_at_call 55); (with_reducible refine (apogeeref13_within.calls a0_4 0 1024 false _ A27.out).mono ?_); rintro e w' ⟨rfl, ⟨nd, rfl⟩⟩; (first | refine ⟨_, rfl, ?_⟩ | skip)))
    all_goals (go_ret; exact bF)
end Go.Proofs.Ytjmibjmlihmglaa.G
