-- Written by a program of this session out of the translation; Lean checks it.
import Derived.Test.YtfeekdoakoabeaaGx0
import Derived.Test.YtfeekdoakoabeaaGx1
import Derived.Test.YtfeekdoakoabeaaGx2
import Derived.Test.YtfeekdoakoabeaaGx5
import Derived.Test.YtfeekdoakoabeaaGx6
import Derived.Test.YtfeekdoakoabeaaGx7
namespace Go.Proofs.Ytfeekdoakoabeaa.G
open Go.RowKit Go.Proofs.YtfeekdoakoabeaaW.PrintWords Go.Proofs.YtfeekdoakoabeaaW.PrintLast Go.Proofs.YtfeekdoakoabeaaW.PrintMore
attribute [local go_sem] max2_int min2_int max_two min_two max_three min_three max_four min_four   -- for this text's walks alone
set_option linter.unusedVariables false
set_option linter.unusedSimpArgs false

attribute [local go_sem high] eqA28 eqA30
/-! ### fall_Time: function 41 -/
def fall_Time.f (k : Nat) (a0 : Int) (a1 : Int) (a2 : Int) : Option (Int × Bool) := (fall_may.f a0 a1 a2).bind fun t545 => (if t545 = true then ((fall_fallen.f k a0 a1 a2).bind fun bt546 => (some (bt546.1, bt546.2))) else (some (0, false)))
theorem fall_Time.mono : ∀ a0 a1 a2 k, LeO (fall_Time.f k a0 a1 a2) (fall_Time.f (k + 1) a0 a1 a2) := by
 intro a0 a1 a2 k
 unfold fall_Time.f
 have m0_ := @fall_fallen.mono
 exact bMo
set_option maxHeartbeats 8000000 in
set_option maxRecDepth 100000 in
theorem fall_Time.calls (k : Nat) (a0 : Int) (a1 : Int) (a2 : Int) (r1 : Int) (r2 : Bool) (w : World) (h : fall_Time.f k a0 a1 a2 = some (r1, r2)) :
  Calls Try.prog 41 #[.int .i64 a0, .int .i64 a1, .int .i64 a2] w fun e w' => e = .returned (.tuple #[.int .i64 r1, .bool r2]) ∧ Below w.heap.size w w' := by
 have HB := bA (Below.refl w.heap.size w)
 have H : ((fall_may.f a0 a1 a2).bind fun t545 => (if t545 = true then ((fall_fallen.f k a0 a1 a2).bind fun bt546 => (some (bt546.1, bt546.2))) else (some (0, false)))) = some (r1, r2) := h
 clear h
 replace H := Option.bind_eq_some_iff.mp H
 obtain ⟨t545, A40, H⟩ := H
 have A4 := bA A40
 clear A40
 by_cases c5 : t545 = true
 subst c5
 rw [if_pos rfl] at H
 replace H := Option.bind_eq_some_iff.mp H
 obtain ⟨⟨t546, t547⟩, A60, H⟩ := H
 replace H : (some (t546, t547)) = some (r1, r2) := H
 have A6 := bA A60
 clear A60
 simp only [Option.some.injEq, Prod.mk.injEq] at H
 obtain ⟨rfl, rfl⟩ := H
 rotate_left
 replace c5 := Bool.eq_false_iff.mpr c5
 subst c5
 rw [if_neg bn] at H
 simp only [Option.some.injEq, Prod.mk.injEq] at H
 obtain ⟨rfl, rfl⟩ := H
 rotate_left
 all_goals go_enter Try.func41, Try.ntmps41
 all_goals go_wp2_with (first | ((first | ((with_reducible refine gate_callee (f := 37) rfl ?_); refine bC (some 11) Try.func37 #[.int .i64 a0, .int .i64 a1, .int .i64 a2] ?_) | go_at_call 37); (with_reducible refine (fall_may.calls a0 a1 a2 true _ A4.out).mono ?_); rintro e w' ⟨rfl, ⟨nd, rfl⟩⟩; (first | refine ⟨_, rfl, ?_⟩ | skip)) | ((first | ((with_reducible refine gate_callee (f := 38) rfl ?_); refine bC (some 16) Try.func38 #[.int .i64 a0, .int .i64 a1, .int .i64 a2] ?_) | go_at_call 38); (with_reducible refine (fall_fallen.calls k a0 a1 a2 t546 t547 _ A6.out).mono ?_); rintro e wz0 ⟨rfl, hb⟩; (first | refine ⟨_, rfl, ?_⟩ | skip); replace HB := bA (bS hb); (try clear hb)) | ((first | ((with_reducible refine gate_callee (f := 37) rfl ?_); refine bC (some 11) Try.func37 #[.int .i64 a0, .int .i64 a1, .int .i64 a2] ?_) | go_at_call 37); (with_reducible refine (fall_may.calls a0 a1 a2 false _ A4.out).mono ?_); rintro e w' ⟨rfl, ⟨nd, rfl⟩⟩; (first | refine ⟨_, rfl, ?_⟩ | skip)))
 all_goals (go_ret2; exact bF)
/-! ### fix_Sum: function 53 -/
def fix_Sum.l0 : Nat → Int → List Int → Int → Int → Option (Int × Bool)
 | 0, _, _, _, _ => none
 | k + 1, x2, x6, x7, x8 => if x8 < x7 then (if 0 ≤ x8 then (if x8 < (x6.length : Int) then ((fix_Add.f x2 (rd x6 x8)).bind fun bt549 => (if bt549.2 = true then (fix_Sum.l0 k bt549.1 x6 x7 (wrap64 (x8 + 1))) else (some (0, false)))) else (none)) else (none)) else (some (x2, true))
def fix_Sum.f (k : Nat) (l0 : List Int) : Option (Int × Bool) := fix_Sum.l0 k 0 l0 (l0.length : Int) 0
theorem fix_Sum.mono_l : ∀ k, (∀ y0 y1 y2 y3, LeO (fix_Sum.l0 k y0 y1 y2 y3) (fix_Sum.l0 (k + 1) y0 y1 y2 y3))
 | 0 => fun _ _ _ _ r h => by simp [fix_Sum.l0] at h
 | k + 1 => by
  have ih0 := fix_Sum.mono_l k
  ·intro y0 y1 y2 y3
   unfold fix_Sum.l0
   exact bMo
theorem fix_Sum.mono : ∀ a0 k, LeO (fix_Sum.f k a0) (fix_Sum.f (k + 1) a0) := by
 intro a0 k
 have ih0 := fix_Sum.mono_l k
 unfold fix_Sum.f
 exact bMo
set_option maxHeartbeats 8000000 in
set_option maxRecDepth 100000 in
theorem fix_Sum.calls (k : Nat) (A0 : Option Addr) (c0 : Nat) (l0 : List Int) (r1 : Int) (r2 : Bool) (w : World) (hr0 : Kd.C (Kd.int .i64) w A0 l0.length l0) (hc0 : l0.length ≤ c0) (h : fix_Sum.f k l0 = some (r1, r2)) :
  Calls Try.prog 53 #[.slice A0 l0.length c0] w fun e w' => e = .returned (.tuple #[.int .i64 r1, .bool r2]) ∧ Below w.heap.size w w' := by
 have HR0 := bA hr0
 have HC0 := bA hc0
 clear hr0 hc0
 have HB := bA (Below.refl w.heap.size w)
 have H : (fix_Sum.l0 k 0 l0 (l0.length : Int) 0) = some (r1, r2) := h
 clear h
 have H' := bA H
 clear H
 go_enter Try.func53, Try.ntmps53
 go_wp2
 go_loopg [2, 8] k (fun kq v2 v8 w' => ∃ (x2_1 : Int) (x8_1 : Int), v2 = .int .i64 x2_1 ∧ v8 = .int .i64 x8_1 ∧ Aside0 (fix_Sum.l0 kq x2_1 l0 (l0.length : Int) x8_1 = some (r1, r2)) ∧ Aside0 (kq ≤ k) ∧ Aside0 (Below w.heap.size w w'))
 case atStart => exact ⟨(0), (0), bs, bs, H', ⟨Nat.le_refl _⟩, ⟨bX⟩⟩
 clear H'
 obtain ⟨x2_1, x8_1, rfl, rfl, HA, HK1, HB⟩ := hrel
 cases gk with
 | zero => exact absurd HA.out (by simp [fix_Sum.l0])
 | succ k1 =>
  have H := HA.out
  clear HA
  simp only [fix_Sum.l0] at H
  by_cases c2 : x8_1 < (l0.length : Int)
  rw [if_pos c2] at H
  have c2b0 : decide (x8_1 < (l0.length : Int)) = true := decide_eq_true c2
  clear c2
  by_cases c3 : 0 ≤ x8_1
  rw [if_pos c3] at H
  have c3b0 : decide (0 ≤ x8_1) = true := decide_eq_true c3
  clear c3
  by_cases c4 : x8_1 < (l0.length : Int)
  rw [if_pos c4] at H
  have c4b0 : decide (x8_1 < (l0.length : Int)) = true := decide_eq_true c4
  clear c4
  replace H := Option.bind_eq_some_iff.mp H
  obtain ⟨⟨t549, t550⟩, A50, H⟩ := H
  replace H : (if t550 = true then (fix_Sum.l0 k1 t549 l0 (l0.length : Int) (wrap64 (x8_1 + 1))) else (some (0, false))) = some (r1, r2) := H
  have A5 := bA A50
  clear A50
  by_cases c6 : t550 = true
  subst c6
  rw [if_pos rfl] at H
  have H' := bA H
  clear H
  have p548 : 0 ≤ (x8_1 : Int) := bo
  have q548 : x8_1 < (l0.length : Int) := bo
  obtain ⟨ad548, e548, hx548_0⟩ := Kd.at_int HR0.out x8_1 p548 q548
  cases e548
  replace hx548_0 := bK hx548_0
  replace p548 := eq_true p548
  replace q548 := eq_true q548
  rotate_left
  replace c6 := Bool.eq_false_iff.mpr c6
  subst c6
  rw [if_neg bn] at H
  simp only [Option.some.injEq, Prod.mk.injEq] at H
  obtain ⟨rfl, rfl⟩ := H
  have p548 : 0 ≤ (x8_1 : Int) := bo
  have q548 : x8_1 < (l0.length : Int) := bo
  obtain ⟨ad548, e548, hx548_0⟩ := Kd.at_int HR0.out x8_1 p548 q548
  cases e548
  replace hx548_0 := bK hx548_0
  replace p548 := eq_true p548
  replace q548 := eq_true q548
  rotate_left
  rw [if_neg c4] at H
  exact absurd H (by simp)
  rw [if_neg c3] at H
  exact absurd H (by simp)
  rw [if_neg c2] at H
  have c2b0 : decide (x8_1 < (l0.length : Int)) = false := decide_eq_false c2
  clear c2
  simp only [Option.some.injEq, Prod.mk.injEq] at H
  obtain ⟨rfl, rfl⟩ := H
  rotate_left
  all_goals go_wp2_with (first | ((first | ((with_reducible refine gate_callee (f := 47) rfl ?_); refine bC (some 15) Try.func47 #[.int .i64 x2_1, .int .i64 (rd l0 x8_1)] ?_) | go_at_call 47); (with_reducible refine (fix_Add.calls x2_1 (rd l0 x8_1) t549 true _ A5.out).mono ?_); rintro e wz0 ⟨rfl, hb⟩; (first | refine ⟨_, rfl, ?_⟩ | skip); replace HB := bA (bS hb); (try clear hb)) | ((first | ((with_reducible refine gate_callee (f := 47) rfl ?_); refine bC (some 15) Try.func47 #[.int .i64 x2_1, .int .i64 (rd l0 x8_1)] ?_) | go_at_call 47); (with_reducible refine (fix_Add.calls x2_1 (rd l0 x8_1) t549 false _ A5.out).mono ?_); rintro e wz0 ⟨rfl, hb⟩; (first | refine ⟨_, rfl, ?_⟩ | skip); replace HB := bA (bS hb); (try clear hb)))
  ·go_roundg k1
   case measure => have := HK1.out; omega
   case rel => exact ⟨(t549), (wrap64 (x8_1 + 1)), bs, bs, H', ⟨by have := HK1.out; omega⟩, ⟨bX⟩⟩
  ·go_ret2
   exact bF
  go_ret2
  exact bF
/-! ### fall_Above: function 43 -/
def fall_Above.f (k : Nat) (a0 : Int) (a1 : Int) (a2 : Int) (a3 : Int) : Option (Int × Bool) := (fall_may.f a0 a1 a2).bind fun t551 => (if t551 = true then ((fall_within.f a3 0 16777216).bind fun t552 => (if t552 = true then ((fix_Sum.f k (([wrap64 (2 * a0), wrap64 ((wrap64 (2 * a1)) * a3), wrap64 ((wrap64 ((wrap64 (-a2)) * a3)) * a3)] : List Int))).bind fun bt556 => (some (bt556.1, bt556.2))) else (some (0, false)))) else (some (0, false)))
theorem fall_Above.mono : ∀ a0 a1 a2 a3 k, LeO (fall_Above.f k a0 a1 a2 a3) (fall_Above.f (k + 1) a0 a1 a2 a3) := by
 intro a0 a1 a2 a3 k
 unfold fall_Above.f
 have m0_ := @fix_Sum.mono
 exact bMo
set_option maxHeartbeats 8000000 in
set_option maxRecDepth 100000 in
theorem fall_Above.calls (k : Nat) (a0 : Int) (a1 : Int) (a2 : Int) (a3 : Int) (r1 : Int) (r2 : Bool) (w : World) (h : fall_Above.f k a0 a1 a2 a3 = some (r1, r2)) :
  Calls Try.prog 43 #[.int .i64 a0, .int .i64 a1, .int .i64 a2, .int .i64 a3] w fun e w' => e = .returned (.tuple #[.int .i64 r1, .bool r2]) ∧ Below w.heap.size w w' := by
 have HB := bA (Below.refl w.heap.size w)
 have H : ((fall_may.f a0 a1 a2).bind fun t551 => (if t551 = true then ((fall_within.f a3 0 16777216).bind fun t552 => (if t552 = true then ((fix_Sum.f k (([wrap64 (2 * a0), wrap64 ((wrap64 (2 * a1)) * a3), wrap64 ((wrap64 ((wrap64 (-a2)) * a3)) * a3)] : List Int))).bind fun bt556 => (some (bt556.1, bt556.2))) else (some (0, false)))) else (some (0, false)))) = some (r1, r2) := h
 clear h
 replace H := Option.bind_eq_some_iff.mp H
 obtain ⟨t551, A50, H⟩ := H
 have A5 := bA A50
 clear A50
 by_cases c6 : t551 = true
 subst c6
 rw [if_pos rfl] at H
 replace H := Option.bind_eq_some_iff.mp H
 obtain ⟨t552, A70, H⟩ := H
 have A7 := bA A70
 clear A70
 by_cases c8 : t552 = true
 subst c8
 rw [if_pos rfl] at H
 obtain ⟨y553, hy553⟩ : ∃ y_ : List Int, y_ = (([wrap64 (2 * a0), wrap64 ((wrap64 (2 * a1)) * a3), wrap64 ((wrap64 ((wrap64 (-a2)) * a3)) * a3)] : List Int)) := ⟨_, rfl⟩
 replace H : ((fix_Sum.f k y553).bind fun bt556 => (some (bt556.1, bt556.2))) = some (r1, r2) := by first | (rw [hy553]; with_reducible exact H) | (have H2_ := (Option.bind_some _ _).symm.trans H; rw [hy553]; with_reducible exact H2_) | (have H2_ := (Option.bind_some _ _).symm.trans H; with_reducible exact H2_) | with_reducible exact H | (rw [hy553]; exact H) | exact H
 have Ny553 := bA hy553
 clear hy553
 replace H := Option.bind_eq_some_iff.mp H
 obtain ⟨⟨t556, t557⟩, A90, H⟩ := H
 replace H : (some (t556, t557)) = some (r1, r2) := H
 have A9 := bA A90
 clear A90
 simp only [Option.some.injEq, Prod.mk.injEq] at H
 obtain ⟨rfl, rfl⟩ := H
 rotate_left
 replace c8 := Bool.eq_false_iff.mpr c8
 subst c8
 rw [if_neg bn] at H
 simp only [Option.some.injEq, Prod.mk.injEq] at H
 obtain ⟨rfl, rfl⟩ := H
 rotate_left
 replace c6 := Bool.eq_false_iff.mpr c6
 subst c6
 rw [if_neg bn] at H
 simp only [Option.some.injEq, Prod.mk.injEq] at H
 obtain ⟨rfl, rfl⟩ := H
 rotate_left
 all_goals go_enter Try.func43, Try.ntmps43
 all_goals go_wp2_with (first | ((first | ((with_reducible refine gate_callee (f := 37) rfl ?_); refine bC (some 13) Try.func37 #[.int .i64 a0, .int .i64 a1, .int .i64 a2] ?_) | go_at_call 37); (with_reducible refine (fall_may.calls a0 a1 a2 true _ A5.out).mono ?_); rintro e w' ⟨rfl, ⟨nd, rfl⟩⟩; (first | refine ⟨_, rfl, ?_⟩ | skip)) | (go_at_call 36; (with_reducible refine (fall_within.calls a3 0 16777216 true _ A7.out).mono ?_); rintro e w' ⟨rfl, ⟨nd, rfl⟩⟩) | ((with_reducible refine gate_dst (N := 32) rfl ?_); refine Kd.R_lit (Kd.int .i64) _ 2 ?hg (N := 32) ?hd (xs := ([wrap64 (2 * a0), wrap64 ((wrap64 (2 * a1)) * a3), wrap64 ((wrap64 ((wrap64 (-a2)) * a3)) * a3)] : List Int)) (inner := [.int .i64 (wrap64 (2 * a0)), .int .i64 (wrap64 ((wrap64 (2 * a1)) * a3)), .int .i64 (wrap64 ((wrap64 ((wrap64 (-a2)) * a3)) * a3))]) (ok := fun _ => True) (okp := fun _ => True) ?hr ?hp (fun _ hk => hk) trivial (Below.refl _ _) (Nat.le_refl _) (by simp) ?_; (case hd => rfl); (case hg => rfl); (case hr => first | (go_simp; done) | (go_simp; rfl)); (case hp => exact (Reps.one (show Kd.M (Kd.int .i64) _ _ _ (wrap64 (2 * a0)) [.int .i64 (wrap64 (2 * a0))] from rfl) (Reps.one (show Kd.M (Kd.int .i64) _ _ _ (wrap64 ((wrap64 (2 * a1)) * a3)) [.int .i64 (wrap64 ((wrap64 (2 * a1)) * a3))] from rfl) (Reps.one (show Kd.M (Kd.int .i64) _ _ _ (wrap64 ((wrap64 ((wrap64 (-a2)) * a3)) * a3)) [.int .i64 (wrap64 ((wrap64 ((wrap64 (-a2)) * a3)) * a3))] from rfl) (Reps.none _ _))))); intro v554 wz0 ho11 hb hg_ hnew_; clear hg_ hnew_; (first | rw [← Ny553.out] at ho11 | (simp only [Int.reduceToNat] at ho11; rw [← Ny553.out] at ho11)); have HO555 := bA (Kd.R_lower ho11 bY); replace HB := bA (bS hb); clear hb ho11; obtain ⟨Aoz1, coz2, eoz3⟩ := Kd.R_slice HO555.out; subst eoz3) | ((first | ((with_reducible refine gate_callee (f := 53) rfl ?_); refine bC (some 33) Try.func53 #[.slice Aoz1 y553.length coz2] ?_) | go_at_call 53); (with_reducible refine (fix_Sum.calls k _ _ y553 t556 t557 _ ?side1 ?side2 A9.out).mono ?_); (case side1 => repeat (first | exact (Kd.R_reads' HO555.out).2.2 | (with_reducible refine Kd.C_alloc ?_ _) | (with_reducible refine Kd.C_drewN ?_ _) | (with_reducible refine Kd.C_drew ?_))); (case side2 => exact (Kd.R_reads' HO555.out).2.1); rintro e wz4 ⟨rfl, hb⟩; (first | refine ⟨_, rfl, ?_⟩ | skip); replace HO555 := bA (Kd.R_below (bRr HO555) hb); replace HB := bA (bS hb); (try clear hb)) | (go_at_call 36; (with_reducible refine (fall_within.calls a3 0 16777216 false _ A7.out).mono ?_); rintro e w' ⟨rfl, ⟨nd, rfl⟩⟩) | ((first | ((with_reducible refine gate_callee (f := 37) rfl ?_); refine bC (some 13) Try.func37 #[.int .i64 a0, .int .i64 a1, .int .i64 a2] ?_) | go_at_call 37); (with_reducible refine (fall_may.calls a0 a1 a2 false _ A5.out).mono ?_); rintro e w' ⟨rfl, ⟨nd, rfl⟩⟩; (first | refine ⟨_, rfl, ?_⟩ | skip)))
 all_goals (go_ret2; exact bF)
/-! ### impact_Way: function 24 -/
def impact_Way.f (k : Nat) (a0_0 : Int) (a0_1 : Int) (a0_2 : Int) (a0_3 : Int) (a0_4 : Int) (a0_5 : Int) (a0_6 : Int) (a0_7 : Int) (a1 : Int) (a2 : Int) : Option (Int × Int × Bool) := (fall_Above.f k a0_4 a0_7 a1 a2).bind fun bt560 => (if bt560.2 = true then ((impact_may.f k a0_0 a0_1 a0_2 a0_3 a0_4 a0_5 a0_6 a0_7).bind fun t562 => (if t562 = true then (some (wrap64 (a0_2 + (wrap64 (a0_5 * a2))), wrap64 (a0_3 + (wrap64 (a0_6 * a2))), true)) else (some (0, 0, false)))) else (some (0, 0, false)))
theorem impact_Way.mono : ∀ a0 a1 a2 a3 a4 a5 a6 a7 a8 a9 k, LeO (impact_Way.f k a0 a1 a2 a3 a4 a5 a6 a7 a8 a9) (impact_Way.f (k + 1) a0 a1 a2 a3 a4 a5 a6 a7 a8 a9) := by
 intro a0 a1 a2 a3 a4 a5 a6 a7 a8 a9 k
 unfold impact_Way.f
 have m0_ := @fall_Above.mono
 have m1_ := @impact_may.mono
 exact bMo
set_option maxHeartbeats 8000000 in
set_option maxRecDepth 100000 in
theorem impact_Way.calls (k : Nat) (a0_0 : Int) (a0_1 : Int) (a0_2 : Int) (a0_3 : Int) (a0_4 : Int) (a0_5 : Int) (a0_6 : Int) (a0_7 : Int) (a1 : Int) (a2 : Int) (r1 : Int) (r2 : Int) (r3 : Bool) (w : World) (h : impact_Way.f k a0_0 a0_1 a0_2 a0_3 a0_4 a0_5 a0_6 a0_7 a1 a2 = some (r1, r2, r3)) :
  Calls Try.prog 24 #[.agg #[.int .i64 a0_0, .int .i64 a0_1, .int .i64 a0_2, .int .i64 a0_3, .int .i64 a0_4, .int .i64 a0_5, .int .i64 a0_6, .int .i64 a0_7], .int .i64 a1, .int .i64 a2] w fun e w' => e = .returned (.tuple #[.agg #[.int .i64 r1, .int .i64 r2], .bool r3]) ∧ Below w.heap.size w w' := by
 have hu23 := Try.underlying23
 have hu28 := Try.underlying28
 have HB := bA (Below.refl w.heap.size w)
 have H : ((fall_Above.f k a0_4 a0_7 a1 a2).bind fun bt560 => (if bt560.2 = true then ((impact_may.f k a0_0 a0_1 a0_2 a0_3 a0_4 a0_5 a0_6 a0_7).bind fun t562 => (if t562 = true then (some (wrap64 (a0_2 + (wrap64 (a0_5 * a2))), wrap64 (a0_3 + (wrap64 (a0_6 * a2))), true)) else (some (0, 0, false)))) else (some (0, 0, false)))) = some (r1, r2, r3) := h
 clear h
 replace H := Option.bind_eq_some_iff.mp H
 obtain ⟨⟨t560, t561⟩, A40, H⟩ := H
 replace H : (if t561 = true then ((impact_may.f k a0_0 a0_1 a0_2 a0_3 a0_4 a0_5 a0_6 a0_7).bind fun t562 => (if t562 = true then (some (wrap64 (a0_2 + (wrap64 (a0_5 * a2))), wrap64 (a0_3 + (wrap64 (a0_6 * a2))), true)) else (some (0, 0, false)))) else (some (0, 0, false))) = some (r1, r2, r3) := H
 have A4 := bA A40
 clear A40
 by_cases c5 : t561 = true
 subst c5
 rw [if_pos rfl] at H
 replace H := Option.bind_eq_some_iff.mp H
 obtain ⟨t562, A60, H⟩ := H
 have A6 := bA A60
 clear A60
 by_cases c7 : t562 = true
 subst c7
 rw [if_pos rfl] at H
 simp only [Option.some.injEq, Prod.mk.injEq] at H
 obtain ⟨rfl, rfl, rfl⟩ := H
 rotate_left
 replace c7 := Bool.eq_false_iff.mpr c7
 subst c7
 rw [if_neg bn] at H
 simp only [Option.some.injEq, Prod.mk.injEq] at H
 obtain ⟨rfl, rfl, rfl⟩ := H
 rotate_left
 replace c5 := Bool.eq_false_iff.mpr c5
 subst c5
 rw [if_neg bn] at H
 simp only [Option.some.injEq, Prod.mk.injEq] at H
 obtain ⟨rfl, rfl, rfl⟩ := H
 rotate_left
 all_goals go_enter Try.func24, Try.ntmps24
 all_goals go_wp2_with (first | ((with_reducible refine gate_dst (N := 3) rfl ?_); refine bE (N := 3) (cs := #[.int .i64 a0_0, .int .i64 a0_1, .int .i64 a0_2, .int .i64 a0_3, .int .i64 a0_4, .int .i64 a0_5, .int .i64 a0_6, .int .i64 a0_7]) (t := 23) ?_; intro gb558 hg wz0 hbox hb; have BK558 := bA (hbox); have GW558 := bA (bZ hg); have GE558 := bA (bZ hg); replace HB := bA (bS hb); clear hb hbox hg) | ((with_reducible refine gate_dst (N := 6) rfl ?_); refine bE (N := 6) (cs := #[.int .i64 0, .int .i64 0]) (t := 28) ?_; intro gb559 hg wz1 hbox hb; have BK559 := bA (hbox); have GW559 := bA (bZ hg); have GE559 := bA (bZ hg); have NB558_559 := bA (bL BK558 hg); have NB559_558 := bA (bG BK558 hg); replace BK558 := bA (bB BK558 hb); replace HB := bA (bS hb); clear hb hbox hg; have hz1 := NB558_559.out; have hz2 := NB559_558.out; obtain ⟨hz3, hz4, hz5, hz6, hz7, hz8, hz9, hz10, hz11, hz12, hz13, hz14, hz15, hz16, hz17, hz18⟩ := bc8 BK558) | ((first | ((with_reducible refine gate_callee (f := 43) rfl ?_); refine bC (some 17) Try.func43 #[.int .i64 a0_4, .int .i64 a0_7, .int .i64 a1, .int .i64 a2] ?_) | go_at_call 43); (with_reducible refine (fall_Above.calls k a0_4 a0_7 a1 a2 t560 true _ A4.out).mono ?_); rintro e wz2 ⟨rfl, hb⟩; (first | refine ⟨_, rfl, ?_⟩ | skip); replace BK558 := bA (bB BK558 hb); replace BK559 := bA (bB BK559 hb); replace HB := bA (bS hb); (try clear hb)) | (go_at_call 19; (with_reducible refine (impact_may.calls k gb558 a0_0 a0_1 a0_2 a0_3 a0_4 a0_5 a0_6 a0_7 true _ ?side1 A6.out).mono ?_); (case side1 => exact (bP BK558)); rintro e wz3 ⟨rfl, hb⟩; replace BK558 := bA (bB BK558 hb); replace BK559 := bA (bB BK559 hb); replace HB := bA (bS hb); (try clear hb); obtain ⟨hz19, hz20, hz21, hz22, hz23, hz24, hz25, hz26, hz11, hz12, hz13, hz14, hz15, hz16, hz17, hz18⟩ := bc8 BK558; obtain ⟨hz27, hz28, hz29, hz30⟩ := bc2 BK559) | (go_at_call 19; (with_reducible refine (impact_may.calls k gb558 a0_0 a0_1 a0_2 a0_3 a0_4 a0_5 a0_6 a0_7 false _ ?side1 A6.out).mono ?_); (case side1 => exact (bP BK558)); rintro e wz3 ⟨rfl, hb⟩; replace BK558 := bA (bB BK558 hb); replace BK559 := bA (bB BK559 hb); replace HB := bA (bS hb); (try clear hb); obtain ⟨hz27, hz28, hz29, hz30⟩ := bc2 BK559) | ((first | ((with_reducible refine gate_callee (f := 43) rfl ?_); refine bC (some 17) Try.func43 #[.int .i64 a0_4, .int .i64 a0_7, .int .i64 a1, .int .i64 a2] ?_) | go_at_call 43); (with_reducible refine (fall_Above.calls k a0_4 a0_7 a1 a2 t560 false _ A4.out).mono ?_); rintro e wz2 ⟨rfl, hb⟩; (first | refine ⟨_, rfl, ?_⟩ | skip); replace BK558 := bA (bB BK558 hb); replace BK559 := bA (bB BK559 hb); replace HB := bA (bS hb); (try clear hb); obtain ⟨hz31, hz32, hz29, hz30⟩ := bc2 BK559))
 ·refine bodyPost_ret (results_ct rfl _ _ gb559 28 #[.int .i64 (wrap64 (a0_2 + (wrap64 (a0_5 * a2)))), .int .i64 (wrap64 (a0_3 + (wrap64 (a0_6 * a2))))] (0, 0) _ rfl (by (with_reducible repeat (first | refine blk_drewN ?_ _ | refine blk_drew ?_ | refine blk_alloc ?_ _)); refine blk_put (cs := #[.int .i64 (wrap64 (a0_2 + (wrap64 (a0_5 * a2)))), .int .i64 0]) ?_ 1 _ rfl; (with_reducible repeat (first | refine blk_drewN ?_ _ | refine blk_drew ?_ | refine blk_alloc ?_ _)); refine blk_put (cs := #[.int .i64 0, .int .i64 0]) ?_ 0 _ rfl; (with_reducible repeat (first | refine blk_drewN ?_ _ | refine blk_drew ?_ | refine blk_alloc ?_ _)); exact BK559.out) Try.underlying28 rfl (by kernel_rfl)) rfl ?_
  exact bF
 ·refine bodyPost_ret (results_ct rfl _ _ gb559 28 #[.int .i64 0, .int .i64 0] (0, 0) _ rfl (by (with_reducible repeat (first | refine blk_drewN ?_ _ | refine blk_drew ?_ | refine blk_alloc ?_ _)); refine blk_put (cs := #[.int .i64 0, .int .i64 0]) ?_ 1 _ rfl; (with_reducible repeat (first | refine blk_drewN ?_ _ | refine blk_drew ?_ | refine blk_alloc ?_ _)); refine blk_put (cs := #[.int .i64 0, .int .i64 0]) ?_ 0 _ rfl; (with_reducible repeat (first | refine blk_drewN ?_ _ | refine blk_drew ?_ | refine blk_alloc ?_ _)); exact BK559.out) Try.underlying28 rfl (by kernel_rfl)) rfl ?_
  exact bF
 refine bodyPost_ret (results_ct rfl _ _ gb559 28 #[.int .i64 0, .int .i64 0] (0, 0) _ rfl (by (with_reducible repeat (first | refine blk_drewN ?_ _ | refine blk_drew ?_ | refine blk_alloc ?_ _)); refine blk_put (cs := #[.int .i64 0, .int .i64 0]) ?_ 1 _ rfl; (with_reducible repeat (first | refine blk_drewN ?_ _ | refine blk_drew ?_ | refine blk_alloc ?_ _)); refine blk_put (cs := #[.int .i64 0, .int .i64 0]) ?_ 0 _ rfl; (with_reducible repeat (first | refine blk_drewN ?_ _ | refine blk_drew ?_ | refine blk_alloc ?_ _)); exact BK559.out) Try.underlying28 rfl (by kernel_rfl)) rfl ?_
 exact bF
/-! ### impact_At: function 22 -/
def impact_At.f (k : Nat) (a0_0 : Int) (a0_1 : Int) (a0_2 : Int) (a0_3 : Int) (a0_4 : Int) (a0_5 : Int) (a0_6 : Int) (a0_7 : Int) (a1 : Int) : Option (Int × Int × Bool) := (fall_Time.f k a0_4 a0_7 a1).bind fun bt565 => (if bt565.2 = true then ((impact_Way.f k a0_0 a0_1 a0_2 a0_3 a0_4 a0_5 a0_6 a0_7 a1 bt565.1).bind fun bt567 => (some (bt567.1, bt567.2.1, bt567.2.2))) else (some (0, 0, false)))
theorem impact_At.mono : ∀ a0 a1 a2 a3 a4 a5 a6 a7 a8 k, LeO (impact_At.f k a0 a1 a2 a3 a4 a5 a6 a7 a8) (impact_At.f (k + 1) a0 a1 a2 a3 a4 a5 a6 a7 a8) := by
 intro a0 a1 a2 a3 a4 a5 a6 a7 a8 k
 unfold impact_At.f
 have m0_ := @fall_Time.mono
 have m1_ := @impact_Way.mono
 exact bMo
set_option maxHeartbeats 8000000 in
set_option maxRecDepth 100000 in
theorem impact_At.calls (k : Nat) (a0_0 : Int) (a0_1 : Int) (a0_2 : Int) (a0_3 : Int) (a0_4 : Int) (a0_5 : Int) (a0_6 : Int) (a0_7 : Int) (a1 : Int) (r1 : Int) (r2 : Int) (r3 : Bool) (w : World) (h : impact_At.f k a0_0 a0_1 a0_2 a0_3 a0_4 a0_5 a0_6 a0_7 a1 = some (r1, r2, r3)) :
  Calls Try.prog 22 #[.agg #[.int .i64 a0_0, .int .i64 a0_1, .int .i64 a0_2, .int .i64 a0_3, .int .i64 a0_4, .int .i64 a0_5, .int .i64 a0_6, .int .i64 a0_7], .int .i64 a1] w fun e w' => e = .returned (.tuple #[.agg #[.int .i64 r1, .int .i64 r2], .bool r3]) ∧ Below w.heap.size w w' := by
 have hu23 := Try.underlying23
 have hu28 := Try.underlying28
 have HB := bA (Below.refl w.heap.size w)
 have H : ((fall_Time.f k a0_4 a0_7 a1).bind fun bt565 => (if bt565.2 = true then ((impact_Way.f k a0_0 a0_1 a0_2 a0_3 a0_4 a0_5 a0_6 a0_7 a1 bt565.1).bind fun bt567 => (some (bt567.1, bt567.2.1, bt567.2.2))) else (some (0, 0, false)))) = some (r1, r2, r3) := h
 clear h
 replace H := Option.bind_eq_some_iff.mp H
 obtain ⟨⟨t565, t566⟩, A30, H⟩ := H
 replace H : (if t566 = true then ((impact_Way.f k a0_0 a0_1 a0_2 a0_3 a0_4 a0_5 a0_6 a0_7 a1 t565).bind fun bt567 => (some (bt567.1, bt567.2.1, bt567.2.2))) else (some (0, 0, false))) = some (r1, r2, r3) := H
 have A3 := bA A30
 clear A30
 by_cases c4 : t566 = true
 subst c4
 rw [if_pos rfl] at H
 replace H := Option.bind_eq_some_iff.mp H
 obtain ⟨⟨t567, t568, t569⟩, A50, H⟩ := H
 replace H : (some (t567, t568, t569)) = some (r1, r2, r3) := H
 have A5 := bA A50
 clear A50
 simp only [Option.some.injEq, Prod.mk.injEq] at H
 obtain ⟨rfl, rfl, rfl⟩ := H
 rotate_left
 replace c4 := Bool.eq_false_iff.mpr c4
 subst c4
 rw [if_neg bn] at H
 simp only [Option.some.injEq, Prod.mk.injEq] at H
 obtain ⟨rfl, rfl, rfl⟩ := H
 rotate_left
 all_goals go_enter Try.func22, Try.ntmps22
 all_goals go_wp2_with (first | ((with_reducible refine gate_dst (N := 2) rfl ?_); refine bE (N := 2) (cs := #[.int .i64 a0_0, .int .i64 a0_1, .int .i64 a0_2, .int .i64 a0_3, .int .i64 a0_4, .int .i64 a0_5, .int .i64 a0_6, .int .i64 a0_7]) (t := 23) ?_; intro gb563 hg wz0 hbox hb; have BK563 := bA (hbox); have GW563 := bA (bZ hg); have GE563 := bA (bZ hg); replace HB := bA (bS hb); clear hb hbox hg) | ((with_reducible refine gate_dst (N := 4) rfl ?_); refine bE (N := 4) (cs := #[.int .i64 0, .int .i64 0]) (t := 28) ?_; intro gb564 hg wz1 hbox hb; have BK564 := bA (hbox); have GW564 := bA (bZ hg); have GE564 := bA (bZ hg); have NB563_564 := bA (bL BK563 hg); have NB564_563 := bA (bG BK563 hg); replace BK563 := bA (bB BK563 hb); replace HB := bA (bS hb); clear hb hbox hg; have hz1 := NB563_564.out; have hz2 := NB564_563.out; obtain ⟨hz3, hz4, hz5, hz6, hz7, hz8, hz9, hz10, hz11, hz12, hz13, hz14, hz15, hz16, hz17, hz18⟩ := bc8 BK563) | ((first | ((with_reducible refine gate_callee (f := 41) rfl ?_); refine bC (some 13) Try.func41 #[.int .i64 a0_4, .int .i64 a0_7, .int .i64 a1] ?_) | go_at_call 41); (with_reducible refine (fall_Time.calls k a0_4 a0_7 a1 t565 true _ A3.out).mono ?_); rintro e wz2 ⟨rfl, hb⟩; (first | refine ⟨_, rfl, ?_⟩ | skip); replace BK563 := bA (bB BK563 hb); replace BK564 := bA (bB BK564 hb); replace HB := bA (bS hb); (try clear hb); obtain ⟨hz19, hz20, hz21, hz22, hz23, hz24, hz25, hz26, hz11, hz12, hz13, hz14, hz15, hz16, hz17, hz18⟩ := bc8 BK563) | ((first | ((with_reducible refine gate_callee (f := 24) rfl ?_); refine bC (some 22) Try.func24 #[.agg #[.int .i64 a0_0, .int .i64 a0_1, .int .i64 a0_2, .int .i64 a0_3, .int .i64 a0_4, .int .i64 a0_5, .int .i64 a0_6, .int .i64 a0_7], .int .i64 a1, .int .i64 t565] ?_) | go_at_call 24); (with_reducible refine (impact_Way.calls k a0_0 a0_1 a0_2 a0_3 a0_4 a0_5 a0_6 a0_7 a1 t565 t567 t568 t569 _ A5.out).mono ?_); rintro e wz3 ⟨rfl, hb⟩; (first | refine ⟨_, rfl, ?_⟩ | skip); replace BK563 := bA (bB BK563 hb); replace BK564 := bA (bB BK564 hb); replace HB := bA (bS hb); (try clear hb); obtain ⟨hz27, hz28, hz29, hz30⟩ := bc2 BK564) | ((first | ((with_reducible refine gate_callee (f := 41) rfl ?_); refine bC (some 13) Try.func41 #[.int .i64 a0_4, .int .i64 a0_7, .int .i64 a1] ?_) | go_at_call 41); (with_reducible refine (fall_Time.calls k a0_4 a0_7 a1 t565 false _ A3.out).mono ?_); rintro e wz2 ⟨rfl, hb⟩; (first | refine ⟨_, rfl, ?_⟩ | skip); replace BK563 := bA (bB BK563 hb); replace BK564 := bA (bB BK564 hb); replace HB := bA (bS hb); (try clear hb); obtain ⟨hz31, hz32, hz29, hz30⟩ := bc2 BK564))
 ·refine bodyPost_ret (results_ct rfl _ _ gb564 28 #[.int .i64 t567, .int .i64 t568] (0, 0) _ rfl (by (with_reducible repeat (first | refine blk_drewN ?_ _ | refine blk_drew ?_ | refine blk_alloc ?_ _)); refine blk_put (cs := #[.int .i64 t567, .int .i64 0]) ?_ 1 _ rfl; (with_reducible repeat (first | refine blk_drewN ?_ _ | refine blk_drew ?_ | refine blk_alloc ?_ _)); refine blk_put (cs := #[.int .i64 0, .int .i64 0]) ?_ 0 _ rfl; (with_reducible repeat (first | refine blk_drewN ?_ _ | refine blk_drew ?_ | refine blk_alloc ?_ _)); exact BK564.out) Try.underlying28 rfl (by kernel_rfl)) rfl ?_
  exact bF
 refine bodyPost_ret (results_ct rfl _ _ gb564 28 #[.int .i64 0, .int .i64 0] (0, 0) _ rfl (by (with_reducible repeat (first | refine blk_drewN ?_ _ | refine blk_drew ?_ | refine blk_alloc ?_ _)); refine blk_put (cs := #[.int .i64 0, .int .i64 0]) ?_ 1 _ rfl; (with_reducible repeat (first | refine blk_drewN ?_ _ | refine blk_drew ?_ | refine blk_alloc ?_ _)); refine blk_put (cs := #[.int .i64 0, .int .i64 0]) ?_ 0 _ rfl; (with_reducible repeat (first | refine blk_drewN ?_ _ | refine blk_drew ?_ | refine blk_alloc ?_ _)); exact BK564.out) Try.underlying28 rfl (by kernel_rfl)) rfl ?_
 exact bF
/-! ### fix_Clamp: function 42 -/
def fix_Clamp.f (a0 : Int) (a1 : Int) (a2 : Int) : Option (Int) := if a0 < a1 then (some a1) else (if a0 > a2 then (some a2) else (some a0))
set_option maxHeartbeats 8000000 in
set_option maxRecDepth 100000 in
theorem fix_Clamp.calls (a0 : Int) (a1 : Int) (a2 : Int) (r : Int) (w : World) (h : fix_Clamp.f a0 a1 a2 = some r) :
  Calls Try.prog 42 #[.int .i64 a0, .int .i64 a1, .int .i64 a2] w fun e w' => e = .returned (.int .i64 r) ∧ Drawn0 w w' := by
 have H : (if a0 < a1 then (some a1) else (if a0 > a2 then (some a2) else (some a0))) = some r := h
 clear h
 by_cases c4 : a0 < a1
 rw [if_pos c4] at H
 have c4b0 : decide (a0 < a1) = true := decide_eq_true c4
 clear c4
 obtain rfl := Option.some.inj H
 rotate_left
 rw [if_neg c4] at H
 have c4b0 : decide (a0 < a1) = false := decide_eq_false c4
 clear c4
 by_cases c5 : a0 > a2
 rw [if_pos c5] at H
 have c5b0 : decide (a2 < a0) = true := decide_eq_true c5
 clear c5
 obtain rfl := Option.some.inj H
 rotate_left
 rw [if_neg c5] at H
 have c5b0 : decide (a2 < a0) = false := decide_eq_false c5
 clear c5
 obtain rfl := Option.some.inj H
 rotate_left
 all_goals go_enter Try.func42, Try.ntmps42
 all_goals go_wp2
 all_goals (go_ret; exact bD)
/-! ### impact_Slack: function 23 -/
def impact_Slack.f (k : Nat) (a0_0 : Int) (a0_1 : Int) (a0_2 : Int) (a0_3 : Int) (a0_4 : Int) (a0_5 : Int) (a0_6 : Int) (a0_7 : Int) (a1 : Int) (a2 : Int) : Option (Int × Bool) := (impact_Box.f k a0_0 a0_1 a0_2 a0_3 a0_4 a0_5 a0_6 a0_7 a1 a2).bind fun bt571 => ((impact_At.f k a0_0 a0_1 a0_2 a0_3 a0_4 a0_5 a0_6 a0_7 a1).bind fun bt577 => (if bt571.2.2.2.2 = true then (if bt577.2.2 = true then ((fix_Clamp.f (mx (mx (mx (wrap64 (bt577.1 - bt571.1)) (wrap64 (bt571.2.2.1 - bt577.1))) (wrap64 (bt577.2.1 - bt571.2.1))) (wrap64 (bt571.2.2.2.1 - bt577.2.1))) 0 4611686018427387904).bind fun t581 => (some (t581, true))) else (some (0, false))) else (some (0, false))))
theorem impact_Slack.mono : ∀ a0 a1 a2 a3 a4 a5 a6 a7 a8 a9 k, LeO (impact_Slack.f k a0 a1 a2 a3 a4 a5 a6 a7 a8 a9) (impact_Slack.f (k + 1) a0 a1 a2 a3 a4 a5 a6 a7 a8 a9) := by
 intro a0 a1 a2 a3 a4 a5 a6 a7 a8 a9 k
 unfold impact_Slack.f
 have m0_ := @impact_At.mono
 have m1_ := @impact_Box.mono
 exact bMo
set_option maxHeartbeats 8000000 in
set_option maxRecDepth 100000 in
theorem impact_Slack.calls (k : Nat) (a0_0 : Int) (a0_1 : Int) (a0_2 : Int) (a0_3 : Int) (a0_4 : Int) (a0_5 : Int) (a0_6 : Int) (a0_7 : Int) (a1 : Int) (a2 : Int) (r1 : Int) (r2 : Bool) (w : World) (h : impact_Slack.f k a0_0 a0_1 a0_2 a0_3 a0_4 a0_5 a0_6 a0_7 a1 a2 = some (r1, r2)) :
  Calls Try.prog 23 #[.agg #[.int .i64 a0_0, .int .i64 a0_1, .int .i64 a0_2, .int .i64 a0_3, .int .i64 a0_4, .int .i64 a0_5, .int .i64 a0_6, .int .i64 a0_7], .int .i64 a1, .int .i64 a2] w fun e w' => e = .returned (.tuple #[.int .i64 r1, .bool r2]) ∧ Below w.heap.size w w' := by
 have hu23 := Try.underlying23
 have hu30 := Try.underlying30
 have hu28 := Try.underlying28
 have HB := bA (Below.refl w.heap.size w)
 have H : ((impact_Box.f k a0_0 a0_1 a0_2 a0_3 a0_4 a0_5 a0_6 a0_7 a1 a2).bind fun bt571 => ((impact_At.f k a0_0 a0_1 a0_2 a0_3 a0_4 a0_5 a0_6 a0_7 a1).bind fun bt577 => (if bt571.2.2.2.2 = true then (if bt577.2.2 = true then ((fix_Clamp.f (mx (mx (mx (wrap64 (bt577.1 - bt571.1)) (wrap64 (bt571.2.2.1 - bt577.1))) (wrap64 (bt577.2.1 - bt571.2.1))) (wrap64 (bt571.2.2.2.1 - bt577.2.1))) 0 4611686018427387904).bind fun t581 => (some (t581, true))) else (some (0, false))) else (some (0, false))))) = some (r1, r2) := h
 clear h
 replace H := Option.bind_eq_some_iff.mp H
 obtain ⟨⟨t571, t572, t573, t574, t575⟩, A40, H⟩ := H
 replace H : ((impact_At.f k a0_0 a0_1 a0_2 a0_3 a0_4 a0_5 a0_6 a0_7 a1).bind fun bt577 => (if t575 = true then (if bt577.2.2 = true then ((fix_Clamp.f (mx (mx (mx (wrap64 (bt577.1 - t571)) (wrap64 (t573 - bt577.1))) (wrap64 (bt577.2.1 - t572))) (wrap64 (t574 - bt577.2.1))) 0 4611686018427387904).bind fun t581 => (some (t581, true))) else (some (0, false))) else (some (0, false)))) = some (r1, r2) := H
 have A4 := bA A40
 clear A40
 replace H := Option.bind_eq_some_iff.mp H
 obtain ⟨⟨t577, t578, t579⟩, A50, H⟩ := H
 replace H : (if t575 = true then (if t579 = true then ((fix_Clamp.f (mx (mx (mx (wrap64 (t577 - t571)) (wrap64 (t573 - t577))) (wrap64 (t578 - t572))) (wrap64 (t574 - t578))) 0 4611686018427387904).bind fun t581 => (some (t581, true))) else (some (0, false))) else (some (0, false))) = some (r1, r2) := H
 have A5 := bA A50
 clear A50
 by_cases c6 : t575 = true
 subst c6
 rw [if_pos rfl] at H
 by_cases c7 : t579 = true
 subst c7
 rw [if_pos rfl] at H
 obtain ⟨ji8, hji8⟩ : ∃ j_ : Int, (mx (wrap64 (t577 - t571)) (wrap64 (t573 - t577))) = j_ := ⟨_, rfl⟩
 replace H : ((fix_Clamp.f (mx (mx (ji8) (wrap64 (t578 - t572))) (wrap64 (t574 - t578))) 0 4611686018427387904).bind fun t581 => (some (t581, true))) = some (r1, r2) := by first | (rw [hji8] at H; exact H) | (simp only [hji8] at H ⊢; exact H)
 (try rw [hji8] at A4)
 (try rw [hji8] at A5)
 have hji8_ : (if (wrap64 (t577 - t571)) < (wrap64 (t573 - t577)) then (wrap64 (t573 - t577)) else (wrap64 (t577 - t571))) = ji8 := hji8
 obtain ⟨ji9, hji9⟩ : ∃ j_ : Int, (mx (ji8) (wrap64 (t578 - t572))) = j_ := ⟨_, rfl⟩
 replace H : ((fix_Clamp.f (mx (ji9) (wrap64 (t574 - t578))) 0 4611686018427387904).bind fun t581 => (some (t581, true))) = some (r1, r2) := by first | (rw [hji9] at H; exact H) | (simp only [hji9] at H ⊢; exact H)
 (try rw [hji9] at A4)
 (try rw [hji9] at A5)
 have hji9_ : (if (ji8) < (wrap64 (t578 - t572)) then (wrap64 (t578 - t572)) else (ji8)) = ji9 := hji9
 obtain ⟨ji10, hji10⟩ : ∃ j_ : Int, (mx (ji9) (wrap64 (t574 - t578))) = j_ := ⟨_, rfl⟩
 replace H : ((fix_Clamp.f (ji10) 0 4611686018427387904).bind fun t581 => (some (t581, true))) = some (r1, r2) := by first | (rw [hji10] at H; exact H) | (simp only [hji10] at H ⊢; exact H)
 (try rw [hji10] at A4)
 (try rw [hji10] at A5)
 have hji10_ : (if (ji9) < (wrap64 (t574 - t578)) then (wrap64 (t574 - t578)) else (ji9)) = ji10 := hji10
 replace H := Option.bind_eq_some_iff.mp H
 obtain ⟨t581, A110, H⟩ := H
 have A11 := bA A110
 clear A110
 simp only [Option.some.injEq, Prod.mk.injEq] at H
 obtain ⟨rfl, rfl⟩ := H
 rotate_left
 replace c7 := Bool.eq_false_iff.mpr c7
 subst c7
 rw [if_neg bn] at H
 simp only [Option.some.injEq, Prod.mk.injEq] at H
 obtain ⟨rfl, rfl⟩ := H
 rotate_left
 replace c6 := Bool.eq_false_iff.mpr c6
 subst c6
 rw [if_neg bn] at H
 simp only [Option.some.injEq, Prod.mk.injEq] at H
 obtain ⟨rfl, rfl⟩ := H
 rotate_left
 all_goals go_enter Try.func23, Try.ntmps23
 all_goals go_wp2_with (first | ((with_reducible refine gate_dst (N := 3) rfl ?_); refine bE (N := 3) (cs := #[.int .i64 a0_0, .int .i64 a0_1, .int .i64 a0_2, .int .i64 a0_3, .int .i64 a0_4, .int .i64 a0_5, .int .i64 a0_6, .int .i64 a0_7]) (t := 23) ?_; intro gb570 hg wz0 hbox hb; have BK570 := bA (hbox); have GW570 := bA (bZ hg); have GE570 := bA (bZ hg); replace HB := bA (bS hb); clear hb hbox hg; obtain ⟨hz1, hz2, hz3, hz4, hz5, hz6, hz7, hz8, hz9, hz10, hz11, hz12, hz13, hz14, hz15, hz16⟩ := bc8 BK570) | ((first | ((with_reducible refine gate_callee (f := 7) rfl ?_); refine bC (some 16) Try.func7 #[.agg #[.int .i64 a0_0, .int .i64 a0_1, .int .i64 a0_2, .int .i64 a0_3, .int .i64 a0_4, .int .i64 a0_5, .int .i64 a0_6, .int .i64 a0_7], .int .i64 a1, .int .i64 a2] ?_) | go_at_call 7); (with_reducible refine (impact_Box.calls k a0_0 a0_1 a0_2 a0_3 a0_4 a0_5 a0_6 a0_7 a1 a2 t571 t572 t573 t574 true _ A4.out).mono ?_); rintro e wz1 ⟨rfl, hb⟩; (first | refine ⟨_, rfl, ?_⟩ | skip); replace BK570 := bA (bB BK570 hb); replace HB := bA (bS hb); (try clear hb)) | ((with_reducible refine gate_dst (N := 8) rfl ?_); refine bE (N := 8) (cs := #[.int .i64 0, .int .i64 0, .int .i64 0, .int .i64 0]) (t := 30) ?_; intro gb576 hg wz2 hbox hb; have BK576 := bA (hbox); have GW576 := bA (bZ hg); have GE576 := bA (bZ hg); have NB570_576 := bA (bL BK570 hg); have NB576_570 := bA (bG BK570 hg); replace BK570 := bA (bB BK570 hb); replace HB := bA (bS hb); clear hb hbox hg; have hz17 := NB576_570.out; have hz18 := NB570_576.out; obtain ⟨hz19, hz20, hz21, hz22, hz23, hz24, hz25, hz26⟩ := bc4 BK576; obtain ⟨hz27, hz28, hz29, hz30, hz31, hz32, hz33, hz34, hz9, hz10, hz11, hz12, hz13, hz14, hz15, hz16⟩ := bc8 BK570) | ((first | ((with_reducible refine gate_callee (f := 22) rfl ?_); refine bC (some 22) Try.func22 #[.agg #[.int .i64 a0_0, .int .i64 a0_1, .int .i64 a0_2, .int .i64 a0_3, .int .i64 a0_4, .int .i64 a0_5, .int .i64 a0_6, .int .i64 a0_7], .int .i64 a1] ?_) | go_at_call 22); (with_reducible refine (impact_At.calls k a0_0 a0_1 a0_2 a0_3 a0_4 a0_5 a0_6 a0_7 a1 t577 t578 true _ A5.out).mono ?_); rintro e wz3 ⟨rfl, hb⟩; (first | refine ⟨_, rfl, ?_⟩ | skip); replace BK570 := bA (blk_below (g := gb570) (o := .cells #[.int .i64 a0_0, .int .i64 a0_1, .int .i64 a0_2, .int .i64 a0_3, .int .i64 a0_4, .int .i64 a0_5, .int .i64 a0_6, .int .i64 a0_7] 23 (0, 0)) (by (repeat ((with_reducible repeat (first | refine blk_drewN ?_ _ | refine blk_drew ?_ | refine blk_alloc ?_ _)); refine blk_far ?_ NB570_576.out _)); (with_reducible repeat (first | refine blk_drewN ?_ _ | refine blk_drew ?_ | refine blk_alloc ?_ _)); exact BK570.out) hb); replace BK576 := bA (blk_below (g := gb576) (o := .cells #[.int .i64 t571, .int .i64 t572, .int .i64 t573, .int .i64 t574] 30 (0, 0)) (by (with_reducible repeat (first | refine blk_drewN ?_ _ | refine blk_drew ?_ | refine blk_alloc ?_ _)); refine blk_put (cs := #[.int .i64 t571, .int .i64 t572, .int .i64 t573, .int .i64 0]) ?_ 3 _ rfl; (with_reducible repeat (first | refine blk_drewN ?_ _ | refine blk_drew ?_ | refine blk_alloc ?_ _)); refine blk_put (cs := #[.int .i64 t571, .int .i64 t572, .int .i64 0, .int .i64 0]) ?_ 2 _ rfl; (with_reducible repeat (first | refine blk_drewN ?_ _ | refine blk_drew ?_ | refine blk_alloc ?_ _)); refine blk_put (cs := #[.int .i64 t571, .int .i64 0, .int .i64 0, .int .i64 0]) ?_ 1 _ rfl; (with_reducible repeat (first | refine blk_drewN ?_ _ | refine blk_drew ?_ | refine blk_alloc ?_ _)); refine blk_put (cs := #[.int .i64 0, .int .i64 0, .int .i64 0, .int .i64 0]) ?_ 0 _ rfl; (with_reducible repeat (first | refine blk_drewN ?_ _ | refine blk_drew ?_ | refine blk_alloc ?_ _)); exact BK576.out) hb); replace HB := bA (bS hb); (try clear hb)) | ((with_reducible refine gate_dst (N := 10) rfl ?_); refine bE (N := 10) (cs := #[.int .i64 0, .int .i64 0]) (t := 28) ?_; intro gb580 hg wz4 hbox hb; have BK580 := bA (hbox); have GW580 := bA (bZ hg); have GE580 := bA (bZ hg); have NB570_580 := bA (bL BK570 hg); have NB580_570 := bA (bG BK570 hg); have NB576_580 := bA (bL BK576 hg); have NB580_576 := bA (bG BK576 hg); replace BK570 := bA (bB BK570 hb); replace BK576 := bA (bB BK576 hb); replace HB := bA (bS hb); clear hb hbox hg; have hz35 := NB580_570.out; have hz36 := NB570_580.out; have hz37 := NB580_576.out; have hz38 := NB576_580.out; obtain ⟨hz39, hz40, hz41, hz42⟩ := bc2 BK580; obtain ⟨hz43, hz44, hz45, hz46, hz23, hz24, hz25, hz26⟩ := bc4 BK576) | ((first | ((with_reducible refine gate_callee (f := 42) rfl ?_); refine goesL_ (some 56) rfl rfl Try.func42 (by kernel_rfl) rfl #[.int .i64 ji10, .int .i64 0, .int .i64 4611686018427387904] rfl (by (try simp only [List.map_toArray, List.map_cons, List.map_nil]); first | done | (simp only [hji10]; rfl) | rfl | (simp only [List.length_drop, List.length_take]; rfl)) ?_) | go_at_call 42); (with_reducible refine (fix_Clamp.calls ji10 0 4611686018427387904 t581 _ A11.out).mono ?_); rintro e w' ⟨rfl, ⟨nd, rfl⟩⟩; (first | refine ⟨_, rfl, ?_⟩ | skip)) | ((first | ((with_reducible refine gate_callee (f := 22) rfl ?_); refine bC (some 22) Try.func22 #[.agg #[.int .i64 a0_0, .int .i64 a0_1, .int .i64 a0_2, .int .i64 a0_3, .int .i64 a0_4, .int .i64 a0_5, .int .i64 a0_6, .int .i64 a0_7], .int .i64 a1] ?_) | go_at_call 22); (with_reducible refine (impact_At.calls k a0_0 a0_1 a0_2 a0_3 a0_4 a0_5 a0_6 a0_7 a1 t577 t578 false _ A5.out).mono ?_); rintro e wz3 ⟨rfl, hb⟩; (first | refine ⟨_, rfl, ?_⟩ | skip); replace BK570 := bA (blk_below (g := gb570) (o := .cells #[.int .i64 a0_0, .int .i64 a0_1, .int .i64 a0_2, .int .i64 a0_3, .int .i64 a0_4, .int .i64 a0_5, .int .i64 a0_6, .int .i64 a0_7] 23 (0, 0)) (by (repeat ((with_reducible repeat (first | refine blk_drewN ?_ _ | refine blk_drew ?_ | refine blk_alloc ?_ _)); refine blk_far ?_ NB570_576.out _)); (with_reducible repeat (first | refine blk_drewN ?_ _ | refine blk_drew ?_ | refine blk_alloc ?_ _)); exact BK570.out) hb); replace BK576 := bA (blk_below (g := gb576) (o := .cells #[.int .i64 t571, .int .i64 t572, .int .i64 t573, .int .i64 t574] 30 (0, 0)) (by (with_reducible repeat (first | refine blk_drewN ?_ _ | refine blk_drew ?_ | refine blk_alloc ?_ _)); refine blk_put (cs := #[.int .i64 t571, .int .i64 t572, .int .i64 t573, .int .i64 0]) ?_ 3 _ rfl; (with_reducible repeat (first | refine blk_drewN ?_ _ | refine blk_drew ?_ | refine blk_alloc ?_ _)); refine blk_put (cs := #[.int .i64 t571, .int .i64 t572, .int .i64 0, .int .i64 0]) ?_ 2 _ rfl; (with_reducible repeat (first | refine blk_drewN ?_ _ | refine blk_drew ?_ | refine blk_alloc ?_ _)); refine blk_put (cs := #[.int .i64 t571, .int .i64 0, .int .i64 0, .int .i64 0]) ?_ 1 _ rfl; (with_reducible repeat (first | refine blk_drewN ?_ _ | refine blk_drew ?_ | refine blk_alloc ?_ _)); refine blk_put (cs := #[.int .i64 0, .int .i64 0, .int .i64 0, .int .i64 0]) ?_ 0 _ rfl; (with_reducible repeat (first | refine blk_drewN ?_ _ | refine blk_drew ?_ | refine blk_alloc ?_ _)); exact BK576.out) hb); replace HB := bA (bS hb); (try clear hb)) | ((first | ((with_reducible refine gate_callee (f := 7) rfl ?_); refine bC (some 16) Try.func7 #[.agg #[.int .i64 a0_0, .int .i64 a0_1, .int .i64 a0_2, .int .i64 a0_3, .int .i64 a0_4, .int .i64 a0_5, .int .i64 a0_6, .int .i64 a0_7], .int .i64 a1, .int .i64 a2] ?_) | go_at_call 7); (with_reducible refine (impact_Box.calls k a0_0 a0_1 a0_2 a0_3 a0_4 a0_5 a0_6 a0_7 a1 a2 t571 t572 t573 t574 false _ A4.out).mono ?_); rintro e wz1 ⟨rfl, hb⟩; (first | refine ⟨_, rfl, ?_⟩ | skip); replace BK570 := bA (bB BK570 hb); replace HB := bA (bS hb); (try clear hb)) | ((first | ((with_reducible refine gate_callee (f := 22) rfl ?_); refine bC (some 22) Try.func22 #[.agg #[.int .i64 a0_0, .int .i64 a0_1, .int .i64 a0_2, .int .i64 a0_3, .int .i64 a0_4, .int .i64 a0_5, .int .i64 a0_6, .int .i64 a0_7], .int .i64 a1] ?_) | go_at_call 22); (with_reducible refine (impact_At.calls k a0_0 a0_1 a0_2 a0_3 a0_4 a0_5 a0_6 a0_7 a1 t577 t578 t579 _ A5.out).mono ?_); rintro e wz3 ⟨rfl, hb⟩; (first | refine ⟨_, rfl, ?_⟩ | skip); replace BK570 := bA (blk_below (g := gb570) (o := .cells #[.int .i64 a0_0, .int .i64 a0_1, .int .i64 a0_2, .int .i64 a0_3, .int .i64 a0_4, .int .i64 a0_5, .int .i64 a0_6, .int .i64 a0_7] 23 (0, 0)) (by (repeat ((with_reducible repeat (first | refine blk_drewN ?_ _ | refine blk_drew ?_ | refine blk_alloc ?_ _)); refine blk_far ?_ NB570_576.out _)); (with_reducible repeat (first | refine blk_drewN ?_ _ | refine blk_drew ?_ | refine blk_alloc ?_ _)); exact BK570.out) hb); replace BK576 := bA (blk_below (g := gb576) (o := .cells #[.int .i64 t571, .int .i64 t572, .int .i64 t573, .int .i64 t574] 30 (0, 0)) (by (with_reducible repeat (first | refine blk_drewN ?_ _ | refine blk_drew ?_ | refine blk_alloc ?_ _)); refine blk_put (cs := #[.int .i64 t571, .int .i64 t572, .int .i64 t573, .int .i64 0]) ?_ 3 _ rfl; (with_reducible repeat (first | refine blk_drewN ?_ _ | refine blk_drew ?_ | refine blk_alloc ?_ _)); refine blk_put (cs := #[.int .i64 t571, .int .i64 t572, .int .i64 0, .int .i64 0]) ?_ 2 _ rfl; (with_reducible repeat (first | refine blk_drewN ?_ _ | refine blk_drew ?_ | refine blk_alloc ?_ _)); refine blk_put (cs := #[.int .i64 t571, .int .i64 0, .int .i64 0, .int .i64 0]) ?_ 1 _ rfl; (with_reducible repeat (first | refine blk_drewN ?_ _ | refine blk_drew ?_ | refine blk_alloc ?_ _)); refine blk_put (cs := #[.int .i64 0, .int .i64 0, .int .i64 0, .int .i64 0]) ?_ 0 _ rfl; (with_reducible repeat (first | refine blk_drewN ?_ _ | refine blk_drew ?_ | refine blk_alloc ?_ _)); exact BK576.out) hb); replace HB := bA (bS hb); (try clear hb)))
 ·go_ret2
  exact ⟨by first | rfl | (simp [errW_none, errW_some] <;> rfl) | (simp only [← hji8, ← hji9, ← hji10]; first | rfl | (simp [errW_none, errW_some] <;> rfl)) | (simp [*, errW_none, errW_some] <;> rfl), by repeat (first | (with_reducible first | exact HB.out | apply below_alloc | apply pw_below_drewN | apply below_drew1 | refine below_set ?_ GE570.out | refine below_set ?_ GE576.out | refine below_set ?_ GE580.out) | exact HB.out)⟩
 ·go_ret2
  exact bF
 go_ret2
 exact bF
/-! ### apogeelaw18_awake: function 8 -/
def apogeelaw18_awake.f (k : Nat)  : Option (Bool) := (impact_Box.f k 0 0 0 0 100 3 0 0 2 0).bind fun bt583 => ((impact_At.f k 0 0 0 0 100 3 0 0 2).bind fun bt589 => ((impact_Slack.f k 0 0 0 0 100 3 0 0 2 0).bind fun bt593 => ((impact_Way.f k 0 0 0 0 100 3 0 0 2 4).bind fun bt595 => ((impact_Box.f k 0 0 0 0 100 3 0 0 0 0).bind fun bt599 => ((impact_Way.f k 0 0 0 0 100 3 0 0 2 (-1)).bind fun bt605 => (if ((bt583.1 == 30 && (bt583.2.1 == 0)) && ((bt583.2.2.1 == 36 && (bt583.2.2.2.1 == 0)))) = true then (if bt583.2.2.2.2 = true then (if (bt589.1 == 30 && (bt589.2.1 == 0)) = true then (if bt589.2.2 = true then (if bt593.1 = 6 then (if bt593.2 = true then (if (bt595.1 == 12 && (bt595.2.1 == 0)) = true then (if bt595.2.2 = true then (if bt599.2.2.2.2 = true then (none) else (some (!bt605.2.2))) else (none)) else (none)) else (none)) else (none)) else (none)) else (none)) else (none)) else (none)))))))
theorem apogeelaw18_awake.mono : ∀ k, LeO (apogeelaw18_awake.f k ) (apogeelaw18_awake.f (k + 1) ) := by
 intro  k
 unfold apogeelaw18_awake.f
 have m0_ := @impact_At.mono
 have m1_ := @impact_Box.mono
 have m2_ := @impact_Slack.mono
 have m3_ := @impact_Way.mono
 exact bMo
set_option maxHeartbeats 8000000 in
set_option maxRecDepth 100000 in
theorem apogeelaw18_awake.calls (k : Nat)  (r : Bool) (w : World) (h : apogeelaw18_awake.f k  = some r) :
  Calls Try.prog 8 #[] w fun e w' => e = .returned (.bool r) ∧ Below w.heap.size w w' := by
 have hu23 := Try.underlying23
 have hu30 := Try.underlying30
 have hu28 := Try.underlying28
 have HB := bA (Below.refl w.heap.size w)
 have H : ((impact_Box.f k 0 0 0 0 100 3 0 0 2 0).bind fun bt583 => ((impact_At.f k 0 0 0 0 100 3 0 0 2).bind fun bt589 => ((impact_Slack.f k 0 0 0 0 100 3 0 0 2 0).bind fun bt593 => ((impact_Way.f k 0 0 0 0 100 3 0 0 2 4).bind fun bt595 => ((impact_Box.f k 0 0 0 0 100 3 0 0 0 0).bind fun bt599 => ((impact_Way.f k 0 0 0 0 100 3 0 0 2 (-1)).bind fun bt605 => (if ((bt583.1 == 30 && (bt583.2.1 == 0)) && ((bt583.2.2.1 == 36 && (bt583.2.2.2.1 == 0)))) = true then (if bt583.2.2.2.2 = true then (if (bt589.1 == 30 && (bt589.2.1 == 0)) = true then (if bt589.2.2 = true then (if bt593.1 = 6 then (if bt593.2 = true then (if (bt595.1 == 12 && (bt595.2.1 == 0)) = true then (if bt595.2.2 = true then (if bt599.2.2.2.2 = true then (none) else (some (!bt605.2.2))) else (none)) else (none)) else (none)) else (none)) else (none)) else (none)) else (none)) else (none)))))))) = some r := h
 clear h
 replace H := Option.bind_eq_some_iff.mp H
 obtain ⟨⟨t583, t584, t585, t586, t587⟩, A10, H⟩ := H
 replace H : ((impact_At.f k 0 0 0 0 100 3 0 0 2).bind fun bt589 => ((impact_Slack.f k 0 0 0 0 100 3 0 0 2 0).bind fun bt593 => ((impact_Way.f k 0 0 0 0 100 3 0 0 2 4).bind fun bt595 => ((impact_Box.f k 0 0 0 0 100 3 0 0 0 0).bind fun bt599 => ((impact_Way.f k 0 0 0 0 100 3 0 0 2 (-1)).bind fun bt605 => (if ((t583 == 30 && (t584 == 0)) && ((t585 == 36 && (t586 == 0)))) = true then (if t587 = true then (if (bt589.1 == 30 && (bt589.2.1 == 0)) = true then (if bt589.2.2 = true then (if bt593.1 = 6 then (if bt593.2 = true then (if (bt595.1 == 12 && (bt595.2.1 == 0)) = true then (if bt595.2.2 = true then (if bt599.2.2.2.2 = true then (none) else (some (!bt605.2.2))) else (none)) else (none)) else (none)) else (none)) else (none)) else (none)) else (none)) else (none))))))) = some r := H
 have A1 := bA A10
 clear A10
 replace H := Option.bind_eq_some_iff.mp H
 obtain ⟨⟨t589, t590, t591⟩, A20, H⟩ := H
 replace H : ((impact_Slack.f k 0 0 0 0 100 3 0 0 2 0).bind fun bt593 => ((impact_Way.f k 0 0 0 0 100 3 0 0 2 4).bind fun bt595 => ((impact_Box.f k 0 0 0 0 100 3 0 0 0 0).bind fun bt599 => ((impact_Way.f k 0 0 0 0 100 3 0 0 2 (-1)).bind fun bt605 => (if ((t583 == 30 && (t584 == 0)) && ((t585 == 36 && (t586 == 0)))) = true then (if t587 = true then (if (t589 == 30 && (t590 == 0)) = true then (if t591 = true then (if bt593.1 = 6 then (if bt593.2 = true then (if (bt595.1 == 12 && (bt595.2.1 == 0)) = true then (if bt595.2.2 = true then (if bt599.2.2.2.2 = true then (none) else (some (!bt605.2.2))) else (none)) else (none)) else (none)) else (none)) else (none)) else (none)) else (none)) else (none)))))) = some r := H
 have A2 := bA A20
 clear A20
 replace H := Option.bind_eq_some_iff.mp H
 obtain ⟨⟨t593, t594⟩, A30, H⟩ := H
 replace H : ((impact_Way.f k 0 0 0 0 100 3 0 0 2 4).bind fun bt595 => ((impact_Box.f k 0 0 0 0 100 3 0 0 0 0).bind fun bt599 => ((impact_Way.f k 0 0 0 0 100 3 0 0 2 (-1)).bind fun bt605 => (if ((t583 == 30 && (t584 == 0)) && ((t585 == 36 && (t586 == 0)))) = true then (if t587 = true then (if (t589 == 30 && (t590 == 0)) = true then (if t591 = true then (if t593 = 6 then (if t594 = true then (if (bt595.1 == 12 && (bt595.2.1 == 0)) = true then (if bt595.2.2 = true then (if bt599.2.2.2.2 = true then (none) else (some (!bt605.2.2))) else (none)) else (none)) else (none)) else (none)) else (none)) else (none)) else (none)) else (none))))) = some r := H
 have A3 := bA A30
 clear A30
 replace H := Option.bind_eq_some_iff.mp H
 obtain ⟨⟨t595, t596, t597⟩, A40, H⟩ := H
 replace H : ((impact_Box.f k 0 0 0 0 100 3 0 0 0 0).bind fun bt599 => ((impact_Way.f k 0 0 0 0 100 3 0 0 2 (-1)).bind fun bt605 => (if ((t583 == 30 && (t584 == 0)) && ((t585 == 36 && (t586 == 0)))) = true then (if t587 = true then (if (t589 == 30 && (t590 == 0)) = true then (if t591 = true then (if t593 = 6 then (if t594 = true then (if (t595 == 12 && (t596 == 0)) = true then (if t597 = true then (if bt599.2.2.2.2 = true then (none) else (some (!bt605.2.2))) else (none)) else (none)) else (none)) else (none)) else (none)) else (none)) else (none)) else (none)))) = some r := H
 have A4 := bA A40
 clear A40
 replace H := Option.bind_eq_some_iff.mp H
 obtain ⟨⟨t599, t600, t601, t602, t603⟩, A50, H⟩ := H
 replace H : ((impact_Way.f k 0 0 0 0 100 3 0 0 2 (-1)).bind fun bt605 => (if ((t583 == 30 && (t584 == 0)) && ((t585 == 36 && (t586 == 0)))) = true then (if t587 = true then (if (t589 == 30 && (t590 == 0)) = true then (if t591 = true then (if t593 = 6 then (if t594 = true then (if (t595 == 12 && (t596 == 0)) = true then (if t597 = true then (if t603 = true then (none) else (some (!bt605.2.2))) else (none)) else (none)) else (none)) else (none)) else (none)) else (none)) else (none)) else (none))) = some r := H
 have A5 := bA A50
 clear A50
 replace H := Option.bind_eq_some_iff.mp H
 obtain ⟨⟨t605, t606, t607⟩, A60, H⟩ := H
 replace H : (if ((t583 == 30 && (t584 == 0)) && ((t585 == 36 && (t586 == 0)))) = true then (if t587 = true then (if (t589 == 30 && (t590 == 0)) = true then (if t591 = true then (if t593 = 6 then (if t594 = true then (if (t595 == 12 && (t596 == 0)) = true then (if t597 = true then (if t603 = true then (none) else (some (!t607))) else (none)) else (none)) else (none)) else (none)) else (none)) else (none)) else (none)) else (none)) = some r := H
 have A6 := bA A60
 clear A60
 by_cases c7 : ((t583 == 30 && (t584 == 0)) && ((t585 == 36 && (t586 == 0)))) = true
 rotate_left
 ·rw [if_neg c7] at H
  exact absurd H (by simp)
 rw [if_pos c7] at H
 have c7b0 : ((t583 == 30 && (t584 == 0)) && ((t585 == 36 && (t586 == 0)))) = true := c7
 clear c7
 by_cases c8 : t587 = true
 rotate_left
 ·replace c8 := Bool.eq_false_iff.mpr c8
  subst c8
  rw [if_neg bn] at H
  exact absurd H (by simp)
 subst c8
 rw [if_pos rfl] at H
 by_cases c9 : (t589 == 30 && (t590 == 0)) = true
 rotate_left
 ·rw [if_neg c9] at H
  exact absurd H (by simp)
 rw [if_pos c9] at H
 have c9b0 : (t589 == 30 && (t590 == 0)) = true := c9
 (try (have c9b1 : decide (t589 = 30 && (t590 == 0)) = true := by simpa using c9))
 (try (have c9b2 : (t589 == 30 && (t590 == 0)) = true := by simpa using c9))
 clear c9
 by_cases c10 : t591 = true
 rotate_left
 ·replace c10 := Bool.eq_false_iff.mpr c10
  subst c10
  rw [if_neg bn] at H
  exact absurd H (by simp)
 subst c10
 rw [if_pos rfl] at H
 by_cases c11 : t593 = 6
 rotate_left
 ·rw [if_neg c11] at H
  exact absurd H (by simp)
 rw [if_pos c11] at H
 have c11b0 : (t593 == 6) = true := beq_iff_eq.mpr c11
 have c11b1 : (t593 != 6) = false := bne_eq_false_iff_eq.mpr c11
 clear c11
 by_cases c12 : t594 = true
 rotate_left
 ·replace c12 := Bool.eq_false_iff.mpr c12
  subst c12
  rw [if_neg bn] at H
  exact absurd H (by simp)
 subst c12
 rw [if_pos rfl] at H
 by_cases c13 : (t595 == 12 && (t596 == 0)) = true
 rotate_left
 ·rw [if_neg c13] at H
  exact absurd H (by simp)
 rw [if_pos c13] at H
 have c13b0 : (t595 == 12 && (t596 == 0)) = true := c13
 (try (have c13b1 : decide (t595 = 12 && (t596 == 0)) = true := by simpa using c13))
 (try (have c13b2 : (t595 == 12 && (t596 == 0)) = true := by simpa using c13))
 clear c13
 by_cases c14 : t597 = true
 rotate_left
 ·replace c14 := Bool.eq_false_iff.mpr c14
  subst c14
  rw [if_neg bn] at H
  exact absurd H (by simp)
 subst c14
 rw [if_pos rfl] at H
 by_cases c15 : t603 = true
 ·subst c15
  rw [if_pos rfl] at H
  exact absurd H (by simp)
 replace c15 := Bool.eq_false_iff.mpr c15
 subst c15
 rw [if_neg bn] at H
 obtain rfl := Option.some.inj H
 go_enter Try.func8, Try.ntmps8
 go_wp2_with (first | ((with_reducible refine gate_dst (N := 1) rfl ?_); refine bE (N := 1) (cs := #[.int .i64 0, .int .i64 0, .int .i64 0, .int .i64 0, .int .i64 0, .int .i64 0, .int .i64 0, .int .i64 0]) (t := 23) ?_; intro gb582 hg w16 hbox hb; have BK582 := bA (hbox); have GW582 := bA (bZ hg); have GE582 := bA (bZ hg); replace HB := bA (bS hb); clear hb hbox hg; obtain ⟨hcz17_0, hcz17_1, hcz17_2, hcz17_3, hcz17_4, hcz17_5, hcz17_6, hcz17_7, hfz17_0, hfz17_1, hfz17_2, hfz17_3, hfz17_4, hfz17_5, hfz17_6, hfz17_7⟩ := bc8 BK582) | ((first | ((with_reducible refine gate_callee (f := 7) rfl ?_); refine bC (some 17) Try.func7 #[.agg #[.int .i64 0, .int .i64 0, .int .i64 0, .int .i64 0, .int .i64 100, .int .i64 3, .int .i64 0, .int .i64 0], .int .i64 2, .int .i64 0] ?_) | go_at_call 7); (with_reducible refine (impact_Box.calls k 0 0 0 0 100 3 0 0 2 0 t583 t584 t585 t586 true _ A1.out).mono ?_); rintro e w18 ⟨rfl, hb⟩; (first | refine ⟨_, rfl, ?_⟩ | skip); replace BK582 := bA (blk_below (g := gb582) (o := .cells #[.int .i64 0, .int .i64 0, .int .i64 0, .int .i64 0, .int .i64 100, .int .i64 3, .int .i64 0, .int .i64 0] 23 (0, 0)) (by (with_reducible repeat (first | refine blk_drewN ?_ _ | refine blk_drew ?_ | refine blk_alloc ?_ _)); refine blk_put (cs := #[.int .i64 0, .int .i64 0, .int .i64 0, .int .i64 0, .int .i64 100, .int .i64 3, .int .i64 0, .int .i64 0]) ?_ 7 _ rfl; (with_reducible repeat (first | refine blk_drewN ?_ _ | refine blk_drew ?_ | refine blk_alloc ?_ _)); refine blk_put (cs := #[.int .i64 0, .int .i64 0, .int .i64 0, .int .i64 0, .int .i64 100, .int .i64 3, .int .i64 0, .int .i64 0]) ?_ 6 _ rfl; (with_reducible repeat (first | refine blk_drewN ?_ _ | refine blk_drew ?_ | refine blk_alloc ?_ _)); refine blk_put (cs := #[.int .i64 0, .int .i64 0, .int .i64 0, .int .i64 0, .int .i64 100, .int .i64 0, .int .i64 0, .int .i64 0]) ?_ 5 _ rfl; (with_reducible repeat (first | refine blk_drewN ?_ _ | refine blk_drew ?_ | refine blk_alloc ?_ _)); refine blk_put (cs := #[.int .i64 0, .int .i64 0, .int .i64 0, .int .i64 0, .int .i64 0, .int .i64 0, .int .i64 0, .int .i64 0]) ?_ 4 _ rfl; (with_reducible repeat (first | refine blk_drewN ?_ _ | refine blk_drew ?_ | refine blk_alloc ?_ _)); refine blk_put (cs := #[.int .i64 0, .int .i64 0, .int .i64 0, .int .i64 0, .int .i64 0, .int .i64 0, .int .i64 0, .int .i64 0]) ?_ 3 _ rfl; (with_reducible repeat (first | refine blk_drewN ?_ _ | refine blk_drew ?_ | refine blk_alloc ?_ _)); refine blk_put (cs := #[.int .i64 0, .int .i64 0, .int .i64 0, .int .i64 0, .int .i64 0, .int .i64 0, .int .i64 0, .int .i64 0]) ?_ 2 _ rfl; (with_reducible repeat (first | refine blk_drewN ?_ _ | refine blk_drew ?_ | refine blk_alloc ?_ _)); refine blk_put (cs := #[.int .i64 0, .int .i64 0, .int .i64 0, .int .i64 0, .int .i64 0, .int .i64 0, .int .i64 0, .int .i64 0]) ?_ 1 _ rfl; (with_reducible repeat (first | refine blk_drewN ?_ _ | refine blk_drew ?_ | refine blk_alloc ?_ _)); refine blk_put (cs := #[.int .i64 0, .int .i64 0, .int .i64 0, .int .i64 0, .int .i64 0, .int .i64 0, .int .i64 0, .int .i64 0]) ?_ 0 _ rfl; (with_reducible repeat (first | refine blk_drewN ?_ _ | refine blk_drew ?_ | refine blk_alloc ?_ _)); exact BK582.out) hb); replace HB := bA (bS hb); (try clear hb)) | ((with_reducible refine gate_dst (N := 2) rfl ?_); refine bE (N := 2) (cs := #[.int .i64 0, .int .i64 0, .int .i64 0, .int .i64 0]) (t := 30) ?_; intro gb588 hg w19 hbox hb; have BK588 := bA (hbox); have GW588 := bA (bZ hg); have GE588 := bA (bZ hg); have NB582_588 := bA (bL BK582 hg); have NB588_582 := bA (bG BK582 hg); replace BK582 := bA (bB BK582 hb); replace HB := bA (bS hb); clear hb hbox hg; have hnb20 := NB588_582.out; have hnc20 := NB582_588.out; obtain ⟨hcz21_0, hcz21_1, hcz21_2, hcz21_3, hfz21_0, hfz21_1, hfz21_2, hfz21_3⟩ := bc4 BK588; obtain ⟨hcz22_0, hcz22_1, hcz22_2, hcz22_3, hcz22_4, hcz22_5, hcz22_6, hcz22_7, hfz22_0, hfz22_1, hfz22_2, hfz22_3, hfz22_4, hfz22_5, hfz22_6, hfz22_7⟩ := bc8 BK582) | ((first | ((with_reducible refine gate_callee (f := 22) rfl ?_); refine bC (some 22) Try.func22 #[.agg #[.int .i64 0, .int .i64 0, .int .i64 0, .int .i64 0, .int .i64 100, .int .i64 3, .int .i64 0, .int .i64 0], .int .i64 2] ?_) | go_at_call 22); (with_reducible refine (impact_At.calls k 0 0 0 0 100 3 0 0 2 t589 t590 true _ A2.out).mono ?_); rintro e w23 ⟨rfl, hb⟩; (first | refine ⟨_, rfl, ?_⟩ | skip); replace BK582 := bA (blk_below (g := gb582) (o := .cells #[.int .i64 0, .int .i64 0, .int .i64 0, .int .i64 0, .int .i64 100, .int .i64 3, .int .i64 0, .int .i64 0] 23 (0, 0)) (by (repeat ((with_reducible repeat (first | refine blk_drewN ?_ _ | refine blk_drew ?_ | refine blk_alloc ?_ _)); refine blk_far ?_ NB582_588.out _)); (with_reducible repeat (first | refine blk_drewN ?_ _ | refine blk_drew ?_ | refine blk_alloc ?_ _)); exact BK582.out) hb); replace BK588 := bA (blk_below (g := gb588) (o := .cells #[.int .i64 t583, .int .i64 t584, .int .i64 t585, .int .i64 t586] 30 (0, 0)) (by (with_reducible repeat (first | refine blk_drewN ?_ _ | refine blk_drew ?_ | refine blk_alloc ?_ _)); refine blk_put (cs := #[.int .i64 t583, .int .i64 t584, .int .i64 t585, .int .i64 0]) ?_ 3 _ rfl; (with_reducible repeat (first | refine blk_drewN ?_ _ | refine blk_drew ?_ | refine blk_alloc ?_ _)); refine blk_put (cs := #[.int .i64 t583, .int .i64 t584, .int .i64 0, .int .i64 0]) ?_ 2 _ rfl; (with_reducible repeat (first | refine blk_drewN ?_ _ | refine blk_drew ?_ | refine blk_alloc ?_ _)); refine blk_put (cs := #[.int .i64 t583, .int .i64 0, .int .i64 0, .int .i64 0]) ?_ 1 _ rfl; (with_reducible repeat (first | refine blk_drewN ?_ _ | refine blk_drew ?_ | refine blk_alloc ?_ _)); refine blk_put (cs := #[.int .i64 0, .int .i64 0, .int .i64 0, .int .i64 0]) ?_ 0 _ rfl; (with_reducible repeat (first | refine blk_drewN ?_ _ | refine blk_drew ?_ | refine blk_alloc ?_ _)); exact BK588.out) hb); replace HB := bA (bS hb); (try clear hb)) | ((with_reducible refine gate_dst (N := 4) rfl ?_); refine bE (N := 4) (cs := #[.int .i64 0, .int .i64 0]) (t := 28) ?_; intro gb592 hg w24 hbox hb; have BK592 := bA (hbox); have GW592 := bA (bZ hg); have GE592 := bA (bZ hg); have NB582_592 := bA (bL BK582 hg); have NB592_582 := bA (bG BK582 hg); have NB588_592 := bA (bL BK588 hg); have NB592_588 := bA (bG BK588 hg); replace BK582 := bA (bB BK582 hb); replace BK588 := bA (bB BK588 hb); replace HB := bA (bS hb); clear hb hbox hg; have hnb25 := NB592_582.out; have hnc25 := NB582_592.out; have hnb26 := NB592_588.out; have hnc26 := NB588_592.out; obtain ⟨hcz27_0, hcz27_1, hfz27_0, hfz27_1⟩ := bc2 BK592; obtain ⟨hcz28_0, hcz28_1, hcz28_2, hcz28_3, hcz28_4, hcz28_5, hcz28_6, hcz28_7, hfz28_0, hfz28_1, hfz28_2, hfz28_3, hfz28_4, hfz28_5, hfz28_6, hfz28_7⟩ := bc8 BK582) | ((first | ((with_reducible refine gate_callee (f := 23) rfl ?_); refine bC (some 27) Try.func23 #[.agg #[.int .i64 0, .int .i64 0, .int .i64 0, .int .i64 0, .int .i64 100, .int .i64 3, .int .i64 0, .int .i64 0], .int .i64 2, .int .i64 0] ?_) | go_at_call 23); (with_reducible refine (impact_Slack.calls k 0 0 0 0 100 3 0 0 2 0 t593 true _ A3.out).mono ?_); rintro e w29 ⟨rfl, hb⟩; (first | refine ⟨_, rfl, ?_⟩ | skip); replace BK582 := bA (blk_below (g := gb582) (o := .cells #[.int .i64 0, .int .i64 0, .int .i64 0, .int .i64 0, .int .i64 100, .int .i64 3, .int .i64 0, .int .i64 0] 23 (0, 0)) (by (repeat ((with_reducible repeat (first | refine blk_drewN ?_ _ | refine blk_drew ?_ | refine blk_alloc ?_ _)); refine blk_far ?_ NB582_592.out _)); (with_reducible repeat (first | refine blk_drewN ?_ _ | refine blk_drew ?_ | refine blk_alloc ?_ _)); exact BK582.out) hb); replace BK588 := bA (blk_below (g := gb588) (o := .cells #[.int .i64 t583, .int .i64 t584, .int .i64 t585, .int .i64 t586] 30 (0, 0)) (by (repeat ((with_reducible repeat (first | refine blk_drewN ?_ _ | refine blk_drew ?_ | refine blk_alloc ?_ _)); refine blk_far ?_ NB588_592.out _)); (with_reducible repeat (first | refine blk_drewN ?_ _ | refine blk_drew ?_ | refine blk_alloc ?_ _)); exact BK588.out) hb); replace BK592 := bA (blk_below (g := gb592) (o := .cells #[.int .i64 t589, .int .i64 t590] 28 (0, 0)) (by (with_reducible repeat (first | refine blk_drewN ?_ _ | refine blk_drew ?_ | refine blk_alloc ?_ _)); refine blk_put (cs := #[.int .i64 t589, .int .i64 0]) ?_ 1 _ rfl; (with_reducible repeat (first | refine blk_drewN ?_ _ | refine blk_drew ?_ | refine blk_alloc ?_ _)); refine blk_put (cs := #[.int .i64 0, .int .i64 0]) ?_ 0 _ rfl; (with_reducible repeat (first | refine blk_drewN ?_ _ | refine blk_drew ?_ | refine blk_alloc ?_ _)); exact BK592.out) hb); replace HB := bA (bS hb); (try clear hb); obtain ⟨hcz30_0, hcz30_1, hcz30_2, hcz30_3, hcz30_4, hcz30_5, hcz30_6, hcz30_7, hfz30_0, hfz30_1, hfz30_2, hfz30_3, hfz30_4, hfz30_5, hfz30_6, hfz30_7⟩ := bc8 BK582) | ((first | ((with_reducible refine gate_callee (f := 24) rfl ?_); refine bC (some 32) Try.func24 #[.agg #[.int .i64 0, .int .i64 0, .int .i64 0, .int .i64 0, .int .i64 100, .int .i64 3, .int .i64 0, .int .i64 0], .int .i64 2, .int .i64 4] ?_) | go_at_call 24); (with_reducible refine (impact_Way.calls k 0 0 0 0 100 3 0 0 2 4 t595 t596 true _ A4.out).mono ?_); rintro e w31 ⟨rfl, hb⟩; (first | refine ⟨_, rfl, ?_⟩ | skip); replace BK582 := bA (bB BK582 hb); replace BK588 := bA (bB BK588 hb); replace BK592 := bA (bB BK592 hb); replace HB := bA (bS hb); (try clear hb)) | ((with_reducible refine gate_dst (N := 8) rfl ?_); refine bE (N := 8) (cs := #[.int .i64 0, .int .i64 0]) (t := 28) ?_; intro gb598 hg w32 hbox hb; have BK598 := bA (hbox); have GW598 := bA (bZ hg); have GE598 := bA (bZ hg); have NB582_598 := bA (bL BK582 hg); have NB598_582 := bA (bG BK582 hg); have NB588_598 := bA (bL BK588 hg); have NB598_588 := bA (bG BK588 hg); have NB592_598 := bA (bL BK592 hg); have NB598_592 := bA (bG BK592 hg); replace BK582 := bA (bB BK582 hb); replace BK588 := bA (bB BK588 hb); replace BK592 := bA (bB BK592 hb); replace HB := bA (bS hb); clear hb hbox hg; have hnb33 := NB598_582.out; have hnc33 := NB582_598.out; have hnb34 := NB598_588.out; have hnc34 := NB588_598.out; have hnb35 := NB598_592.out; have hnc35 := NB592_598.out; obtain ⟨hcz36_0, hcz36_1, hfz36_0, hfz36_1⟩ := bc2 BK598; obtain ⟨hcz37_0, hcz37_1, hcz37_2, hcz37_3, hcz37_4, hcz37_5, hcz37_6, hcz37_7, hfz37_0, hfz37_1, hfz37_2, hfz37_3, hfz37_4, hfz37_5, hfz37_6, hfz37_7⟩ := bc8 BK582) | ((first | ((with_reducible refine gate_callee (f := 7) rfl ?_); refine bC (some 37) Try.func7 #[.agg #[.int .i64 0, .int .i64 0, .int .i64 0, .int .i64 0, .int .i64 100, .int .i64 3, .int .i64 0, .int .i64 0], .int .i64 0, .int .i64 0] ?_) | go_at_call 7); (with_reducible refine (impact_Box.calls k 0 0 0 0 100 3 0 0 0 0 t599 t600 t601 t602 false _ A5.out).mono ?_); rintro e w38 ⟨rfl, hb⟩; (first | refine ⟨_, rfl, ?_⟩ | skip); replace BK582 := bA (blk_below (g := gb582) (o := .cells #[.int .i64 0, .int .i64 0, .int .i64 0, .int .i64 0, .int .i64 100, .int .i64 3, .int .i64 0, .int .i64 0] 23 (0, 0)) (by (repeat ((with_reducible repeat (first | refine blk_drewN ?_ _ | refine blk_drew ?_ | refine blk_alloc ?_ _)); refine blk_far ?_ NB582_598.out _)); (with_reducible repeat (first | refine blk_drewN ?_ _ | refine blk_drew ?_ | refine blk_alloc ?_ _)); exact BK582.out) hb); replace BK588 := bA (blk_below (g := gb588) (o := .cells #[.int .i64 t583, .int .i64 t584, .int .i64 t585, .int .i64 t586] 30 (0, 0)) (by (repeat ((with_reducible repeat (first | refine blk_drewN ?_ _ | refine blk_drew ?_ | refine blk_alloc ?_ _)); refine blk_far ?_ NB588_598.out _)); (with_reducible repeat (first | refine blk_drewN ?_ _ | refine blk_drew ?_ | refine blk_alloc ?_ _)); exact BK588.out) hb); replace BK592 := bA (blk_below (g := gb592) (o := .cells #[.int .i64 t589, .int .i64 t590] 28 (0, 0)) (by (repeat ((with_reducible repeat (first | refine blk_drewN ?_ _ | refine blk_drew ?_ | refine blk_alloc ?_ _)); refine blk_far ?_ NB592_598.out _)); (with_reducible repeat (first | refine blk_drewN ?_ _ | refine blk_drew ?_ | refine blk_alloc ?_ _)); exact BK592.out) hb); replace BK598 := bA (blk_below (g := gb598) (o := .cells #[.int .i64 t595, .int .i64 t596] 28 (0, 0)) (by (with_reducible repeat (first | refine blk_drewN ?_ _ | refine blk_drew ?_ | refine blk_alloc ?_ _)); refine blk_put (cs := #[.int .i64 t595, .int .i64 0]) ?_ 1 _ rfl; (with_reducible repeat (first | refine blk_drewN ?_ _ | refine blk_drew ?_ | refine blk_alloc ?_ _)); refine blk_put (cs := #[.int .i64 0, .int .i64 0]) ?_ 0 _ rfl; (with_reducible repeat (first | refine blk_drewN ?_ _ | refine blk_drew ?_ | refine blk_alloc ?_ _)); exact BK598.out) hb); replace HB := bA (bS hb); (try clear hb)) | ((with_reducible refine gate_dst (N := 10) rfl ?_); refine bE (N := 10) (cs := #[.int .i64 0, .int .i64 0, .int .i64 0, .int .i64 0]) (t := 30) ?_; intro gb604 hg w39 hbox hb; have BK604 := bA (hbox); have GW604 := bA (bZ hg); have GE604 := bA (bZ hg); have NB582_604 := bA (bL BK582 hg); have NB604_582 := bA (bG BK582 hg); have NB588_604 := bA (bL BK588 hg); have NB604_588 := bA (bG BK588 hg); have NB592_604 := bA (bL BK592 hg); have NB604_592 := bA (bG BK592 hg); have NB598_604 := bA (bL BK598 hg); have NB604_598 := bA (bG BK598 hg); replace BK582 := bA (bB BK582 hb); replace BK588 := bA (bB BK588 hb); replace BK592 := bA (bB BK592 hb); replace BK598 := bA (bB BK598 hb); replace HB := bA (bS hb); clear hb hbox hg; have hnb40 := NB604_582.out; have hnc40 := NB582_604.out; have hnb41 := NB604_588.out; have hnc41 := NB588_604.out; have hnb42 := NB604_592.out; have hnc42 := NB592_604.out; have hnb43 := NB604_598.out; have hnc43 := NB598_604.out; obtain ⟨hcz44_0, hcz44_1, hcz44_2, hcz44_3, hfz44_0, hfz44_1, hfz44_2, hfz44_3⟩ := bc4 BK604; obtain ⟨hcz45_0, hcz45_1, hcz45_2, hcz45_3, hcz45_4, hcz45_5, hcz45_6, hcz45_7, hfz45_0, hfz45_1, hfz45_2, hfz45_3, hfz45_4, hfz45_5, hfz45_6, hfz45_7⟩ := bc8 BK582) | ((first | ((with_reducible refine gate_callee (f := 24) rfl ?_); refine bC (some 42) Try.func24 #[.agg #[.int .i64 0, .int .i64 0, .int .i64 0, .int .i64 0, .int .i64 100, .int .i64 3, .int .i64 0, .int .i64 0], .int .i64 2, .int .i64 (-1)] ?_) | go_at_call 24); (with_reducible refine (impact_Way.calls k 0 0 0 0 100 3 0 0 2 (-1) t605 t606 t607 _ A6.out).mono ?_); rintro e w46 ⟨rfl, hb⟩; (first | refine ⟨_, rfl, ?_⟩ | skip); replace BK582 := bA (blk_below (g := gb582) (o := .cells #[.int .i64 0, .int .i64 0, .int .i64 0, .int .i64 0, .int .i64 100, .int .i64 3, .int .i64 0, .int .i64 0] 23 (0, 0)) (by (repeat ((with_reducible repeat (first | refine blk_drewN ?_ _ | refine blk_drew ?_ | refine blk_alloc ?_ _)); refine blk_far ?_ NB582_604.out _)); (with_reducible repeat (first | refine blk_drewN ?_ _ | refine blk_drew ?_ | refine blk_alloc ?_ _)); exact BK582.out) hb); replace BK588 := bA (blk_below (g := gb588) (o := .cells #[.int .i64 t583, .int .i64 t584, .int .i64 t585, .int .i64 t586] 30 (0, 0)) (by (repeat ((with_reducible repeat (first | refine blk_drewN ?_ _ | refine blk_drew ?_ | refine blk_alloc ?_ _)); refine blk_far ?_ NB588_604.out _)); (with_reducible repeat (first | refine blk_drewN ?_ _ | refine blk_drew ?_ | refine blk_alloc ?_ _)); exact BK588.out) hb); replace BK592 := bA (blk_below (g := gb592) (o := .cells #[.int .i64 t589, .int .i64 t590] 28 (0, 0)) (by (repeat ((with_reducible repeat (first | refine blk_drewN ?_ _ | refine blk_drew ?_ | refine blk_alloc ?_ _)); refine blk_far ?_ NB592_604.out _)); (with_reducible repeat (first | refine blk_drewN ?_ _ | refine blk_drew ?_ | refine blk_alloc ?_ _)); exact BK592.out) hb); replace BK598 := bA (blk_below (g := gb598) (o := .cells #[.int .i64 t595, .int .i64 t596] 28 (0, 0)) (by (repeat ((with_reducible repeat (first | refine blk_drewN ?_ _ | refine blk_drew ?_ | refine blk_alloc ?_ _)); refine blk_far ?_ NB598_604.out _)); (with_reducible repeat (first | refine blk_drewN ?_ _ | refine blk_drew ?_ | refine blk_alloc ?_ _)); exact BK598.out) hb); replace BK604 := bA (blk_below (g := gb604) (o := .cells #[.int .i64 t599, .int .i64 t600, .int .i64 t601, .int .i64 t602] 30 (0, 0)) (by (with_reducible repeat (first | refine blk_drewN ?_ _ | refine blk_drew ?_ | refine blk_alloc ?_ _)); refine blk_put (cs := #[.int .i64 t599, .int .i64 t600, .int .i64 t601, .int .i64 0]) ?_ 3 _ rfl; (with_reducible repeat (first | refine blk_drewN ?_ _ | refine blk_drew ?_ | refine blk_alloc ?_ _)); refine blk_put (cs := #[.int .i64 t599, .int .i64 t600, .int .i64 0, .int .i64 0]) ?_ 2 _ rfl; (with_reducible repeat (first | refine blk_drewN ?_ _ | refine blk_drew ?_ | refine blk_alloc ?_ _)); refine blk_put (cs := #[.int .i64 t599, .int .i64 0, .int .i64 0, .int .i64 0]) ?_ 1 _ rfl; (with_reducible repeat (first | refine blk_drewN ?_ _ | refine blk_drew ?_ | refine blk_alloc ?_ _)); refine blk_put (cs := #[.int .i64 0, .int .i64 0, .int .i64 0, .int .i64 0]) ?_ 0 _ rfl; (with_reducible repeat (first | refine blk_drewN ?_ _ | refine blk_drew ?_ | refine blk_alloc ?_ _)); exact BK604.out) hb); replace HB := bA (bS hb); (try clear hb)) | ((with_reducible refine gate_dst (N := 12) rfl ?_); refine bE (N := 12) (cs := #[.int .i64 0, .int .i64 0]) (t := 28) ?_; intro gb608 hg w47 hbox hb; have BK608 := bA (hbox); have GW608 := bA (bZ hg); have GE608 := bA (bZ hg); have NB582_608 := bA (bL BK582 hg); have NB608_582 := bA (bG BK582 hg); have NB588_608 := bA (bL BK588 hg); have NB608_588 := bA (bG BK588 hg); have NB592_608 := bA (bL BK592 hg); have NB608_592 := bA (bG BK592 hg); have NB598_608 := bA (bL BK598 hg); have NB608_598 := bA (bG BK598 hg); have NB604_608 := bA (bL BK604 hg); have NB608_604 := bA (bG BK604 hg); replace BK582 := bA (bB BK582 hb); replace BK588 := bA (bB BK588 hb); replace BK592 := bA (bB BK592 hb); replace BK598 := bA (bB BK598 hb); replace BK604 := bA (bB BK604 hb); replace HB := bA (bS hb); clear hb hbox hg; have hnb48 := NB608_582.out; have hnc48 := NB582_608.out; have hnb49 := NB608_588.out; have hnc49 := NB588_608.out; have hnb50 := NB608_592.out; have hnc50 := NB592_608.out; have hnb51 := NB608_598.out; have hnc51 := NB598_608.out; have hnb52 := NB608_604.out; have hnc52 := NB604_608.out; obtain ⟨hcz53_0, hcz53_1, hfz53_0, hfz53_1⟩ := bc2 BK608; obtain ⟨hcz54_0, hcz54_1, hcz54_2, hcz54_3, hfz54_0, hfz54_1, hfz54_2, hfz54_3⟩ := bc4 BK588; obtain ⟨hcz55_0, hcz55_1, hfz55_0, hfz55_1⟩ := bc2 BK592; obtain ⟨hcz56_0, hcz56_1, hfz56_0, hfz56_1⟩ := bc2 BK598))
 go_ret
 exact bF
/-! ### apogeeref17_root: function 25 -/
def apogeeref17_root.l0 : Nat → Int → Int → Int → Option (Int)
 | 0, _, _, _ => none
 | k + 1, x0, x3, x4 => if (wrap64 (x4 - x3)) > 1 then (if (wrap64 ((wrap64 (x3 + (wrap64 (Int.tdiv (wrap64 (x4 - x3)) 2)))) * (wrap64 (x3 + (wrap64 (Int.tdiv (wrap64 (x4 - x3)) 2)))))) ≤ x0 then (apogeeref17_root.l0 k x0 (wrap64 (x3 + (wrap64 (Int.tdiv (wrap64 (x4 - x3)) 2)))) x4) else (apogeeref17_root.l0 k x0 x3 (wrap64 (x3 + (wrap64 (Int.tdiv (wrap64 (x4 - x3)) 2)))))) else (some x3)
def apogeeref17_root.f (k : Nat) (a0 : Int) : Option (Int) := apogeeref17_root.l0 k a0 0 2147483648
theorem apogeeref17_root.mono_l : ∀ k, (∀ y0 y1 y2, LeO (apogeeref17_root.l0 k y0 y1 y2) (apogeeref17_root.l0 (k + 1) y0 y1 y2))
 | 0 => fun _ _ _ r h => by simp [apogeeref17_root.l0] at h
 | k + 1 => by
  have ih0 := apogeeref17_root.mono_l k
  ·intro y0 y1 y2
   unfold apogeeref17_root.l0
   exact bMo
theorem apogeeref17_root.mono : ∀ a0 k, LeO (apogeeref17_root.f k a0) (apogeeref17_root.f (k + 1) a0) := by
 intro a0 k
 have ih0 := apogeeref17_root.mono_l k
 unfold apogeeref17_root.f
 exact bMo
set_option maxHeartbeats 8000000 in
set_option maxRecDepth 100000 in
theorem apogeeref17_root.calls (k : Nat) (a0 : Int) (r : Int) (w : World) (h : apogeeref17_root.f k a0 = some r) :
  Calls Try.prog 25 #[.int .i64 a0] w fun e w' => e = .returned (.int .i64 r) ∧ Drawn0 w w' := by
 have H : (apogeeref17_root.l0 k a0 0 2147483648) = some r := h
 clear h
 have H' := bA H
 clear H
 go_enter Try.func25, Try.ntmps25
 go_wp2
 go_loopg [3, 4] k (fun kq v3 v4 w' => ∃ (x3_1 : Int) (x4_1 : Int), v3 = .int .i64 x3_1 ∧ v4 = .int .i64 x4_1 ∧ Aside0 (apogeeref17_root.l0 kq a0 x3_1 x4_1 = some r) ∧ Aside0 (kq ≤ k) ∧ Drawn0 w w')
 case atStart => exact ⟨(0), (2147483648), bs, bs, H', ⟨Nat.le_refl _⟩, by repeat (first | exact Drawn0.refl _ | apply Drawn0.step)⟩
 clear H'
 obtain ⟨x3_1, x4_1, rfl, rfl, HA, HK1, ⟨m1, rfl⟩⟩ := hrel
 cases gk with
 | zero => exact absurd HA.out (by simp [apogeeref17_root.l0])
 | succ k1 =>
  have H := HA.out
  clear HA
  simp only [apogeeref17_root.l0] at H
  by_cases c2 : (wrap64 (x4_1 - x3_1)) > 1
  rw [if_pos c2] at H
  have c2b0 : decide (1 < (wrap64 (x4_1 - x3_1))) = true := decide_eq_true c2
  clear c2
  by_cases c3 : (wrap64 ((wrap64 (x3_1 + (wrap64 (Int.tdiv (wrap64 (x4_1 - x3_1)) 2)))) * (wrap64 (x3_1 + (wrap64 (Int.tdiv (wrap64 (x4_1 - x3_1)) 2)))))) ≤ a0
  rw [if_pos c3] at H
  have c3b0 : decide ((wrap64 ((wrap64 (x3_1 + (wrap64 (Int.tdiv (wrap64 (x4_1 - x3_1)) 2)))) * (wrap64 (x3_1 + (wrap64 (Int.tdiv (wrap64 (x4_1 - x3_1)) 2)))))) ≤ a0) = true := decide_eq_true c3
  clear c3
  have H' := bA H
  clear H
  rotate_left
  rw [if_neg c3] at H
  have c3b0 : decide ((wrap64 ((wrap64 (x3_1 + (wrap64 (Int.tdiv (wrap64 (x4_1 - x3_1)) 2)))) * (wrap64 (x3_1 + (wrap64 (Int.tdiv (wrap64 (x4_1 - x3_1)) 2)))))) ≤ a0) = false := decide_eq_false c3
  clear c3
  have H' := bA H
  clear H
  rotate_left
  rw [if_neg c2] at H
  have c2b0 : decide (1 < (wrap64 (x4_1 - x3_1))) = false := decide_eq_false c2
  clear c2
  obtain rfl := Option.some.inj H
  rotate_left
  all_goals go_wp2
  ·go_roundg k1
   case measure => have := HK1.out; omega
   case rel => exact ⟨(wrap64 (x3_1 + (wrap64 (Int.tdiv (wrap64 (x4_1 - x3_1)) 2)))), (x4_1), bs, bs, H', ⟨by have := HK1.out; omega⟩, by repeat (first | exact Drawn0.refl _ | apply Drawn0.step)⟩
  ·go_roundg k1
   case measure => have := HK1.out; omega
   case rel => exact ⟨(x3_1), (wrap64 (x3_1 + (wrap64 (Int.tdiv (wrap64 (x4_1 - x3_1)) 2)))), bs, bs, H', ⟨by have := HK1.out; omega⟩, by repeat (first | exact Drawn0.refl _ | apply Drawn0.step)⟩
  go_ret
  exact bD
/-! ### apogeeref17_Time: function 10 -/
def apogeeref17_Time.f (k : Nat) (a0 : Int) (a1 : Int) (a2 : Int) : Option (Int) := if a0 < 0 then (some 0) else ((apogeeref17_root.f k (wrap64 ((wrap64 (a1 * a1)) + (wrap64 ((wrap64 (2 * a2)) * a0))))).bind fun t609 => (if a2 = 0 then (none) else (some (wrap64 (Int.tdiv (wrap64 (a1 + t609)) a2)))))
theorem apogeeref17_Time.mono : ∀ a0 a1 a2 k, LeO (apogeeref17_Time.f k a0 a1 a2) (apogeeref17_Time.f (k + 1) a0 a1 a2) := by
 intro a0 a1 a2 k
 unfold apogeeref17_Time.f
 have m0_ := @apogeeref17_root.mono
 exact bMo
set_option maxHeartbeats 8000000 in
set_option maxRecDepth 100000 in
theorem apogeeref17_Time.calls (k : Nat) (a0 : Int) (a1 : Int) (a2 : Int) (r : Int) (w : World) (h : apogeeref17_Time.f k a0 a1 a2 = some r) :
  Calls Try.prog 10 #[.int .i64 a0, .int .i64 a1, .int .i64 a2] w fun e w' => e = .returned (.int .i64 r) ∧ Drawn0 w w' := by
 have H : (if a0 < 0 then (some 0) else ((apogeeref17_root.f k (wrap64 ((wrap64 (a1 * a1)) + (wrap64 ((wrap64 (2 * a2)) * a0))))).bind fun t609 => (if a2 = 0 then (none) else (some (wrap64 (Int.tdiv (wrap64 (a1 + t609)) a2)))))) = some r := h
 clear h
 by_cases c4 : a0 < 0
 rw [if_pos c4] at H
 have c4b0 : decide (a0 < 0) = true := decide_eq_true c4
 clear c4
 obtain rfl := Option.some.inj H
 rotate_left
 rw [if_neg c4] at H
 have c4b0 : decide (a0 < 0) = false := decide_eq_false c4
 clear c4
 replace H := Option.bind_eq_some_iff.mp H
 obtain ⟨t609, A50, H⟩ := H
 have A5 := bA A50
 clear A50
 by_cases c6 : a2 = 0
 rw [if_pos c6] at H
 exact absurd H (by simp)
 rw [if_neg c6] at H
 have c6b0 : (a2 == 0) = false := beq_eq_false_iff_ne.mpr c6
 have c6b1 : (a2 != 0) = true := bne_iff_ne.mpr c6
 obtain rfl := Option.some.inj H
 rotate_left
 all_goals go_enter Try.func10, Try.ntmps10
 all_goals go_wp2_with (first | ((first | ((with_reducible refine gate_callee (f := 25) rfl ?_); refine bC (some 18) Try.func25 #[.int .i64 (wrap64 ((wrap64 (a1 * a1)) + (wrap64 ((wrap64 (2 * a2)) * a0))))] ?_) | go_at_call 25); (with_reducible refine (apogeeref17_root.calls k (wrap64 ((wrap64 (a1 * a1)) + (wrap64 ((wrap64 (2 * a2)) * a0)))) t609 _ A5.out).mono ?_); rintro e w' ⟨rfl, ⟨nd, rfl⟩⟩; (first | refine ⟨_, rfl, ?_⟩ | skip)))
 all_goals (go_ret; exact bD)
/-! ### apogeeref17_Above: function 11 -/
def apogeeref17_Above.f (a0 : Int) (a1 : Int) (a2 : Int) (a3 : Int) : Option (Int) := some (wrap64 ((wrap64 ((wrap64 (2 * a0)) + (wrap64 ((wrap64 (2 * a1)) * a3)))) - (wrap64 ((wrap64 (a2 * a3)) * a3))))
set_option maxHeartbeats 8000000 in
set_option maxRecDepth 100000 in
theorem apogeeref17_Above.calls (a0 : Int) (a1 : Int) (a2 : Int) (a3 : Int) (r : Int) (w : World) (h : apogeeref17_Above.f a0 a1 a2 a3 = some r) :
  Calls Try.prog 11 #[.int .i64 a0, .int .i64 a1, .int .i64 a2, .int .i64 a3] w fun e w' => e = .returned (.int .i64 r) ∧ Drawn0 w w' := by
 have H : (some (wrap64 ((wrap64 ((wrap64 (2 * a0)) + (wrap64 ((wrap64 (2 * a1)) * a3)))) - (wrap64 ((wrap64 (a2 * a3)) * a3))))) = some r := h
 clear h
 obtain rfl := Option.some.inj H
 go_enter Try.func11, Try.ntmps11
 go_wp2
 go_ret
 exact bD
/-! ### apogeeref18_Way: function 13 -/
def apogeeref18_Way.f (a0_0 : Int) (a0_1 : Int) (a0_2 : Int) (a0_3 : Int) (a0_4 : Int) (a0_5 : Int) (a0_6 : Int) (a0_7 : Int) (a1 : Int) : Option (Int × Int) := some (wrap64 (a0_2 + (wrap64 (a0_5 * a1))), wrap64 (a0_3 + (wrap64 (a0_6 * a1))))
set_option maxHeartbeats 8000000 in
set_option maxRecDepth 100000 in
theorem apogeeref18_Way.calls (a0_0 : Int) (a0_1 : Int) (a0_2 : Int) (a0_3 : Int) (a0_4 : Int) (a0_5 : Int) (a0_6 : Int) (a0_7 : Int) (a1 : Int) (r1 : Int) (r2 : Int) (w : World) (h : apogeeref18_Way.f a0_0 a0_1 a0_2 a0_3 a0_4 a0_5 a0_6 a0_7 a1 = some (r1, r2)) :
  Calls Try.prog 13 #[.agg #[.int .i64 a0_0, .int .i64 a0_1, .int .i64 a0_2, .int .i64 a0_3, .int .i64 a0_4, .int .i64 a0_5, .int .i64 a0_6, .int .i64 a0_7], .int .i64 a1] w fun e w' => e = .returned (.agg #[.int .i64 r1, .int .i64 r2]) ∧ Below w.heap.size w w' := by
 have hu23 := Try.underlying23
 have hu28 := Try.underlying28
 have HB := bA (Below.refl w.heap.size w)
 have H : (some (wrap64 (a0_2 + (wrap64 (a0_5 * a1))), wrap64 (a0_3 + (wrap64 (a0_6 * a1))))) = some (r1, r2) := h
 clear h
 simp only [Option.some.injEq, Prod.mk.injEq] at H
 obtain ⟨rfl, rfl⟩ := H
 go_enter Try.func13, Try.ntmps13
 go_wp2_with (first | ((with_reducible refine gate_dst (N := 2) rfl ?_); refine bE (N := 2) (cs := #[.int .i64 a0_0, .int .i64 a0_1, .int .i64 a0_2, .int .i64 a0_3, .int .i64 a0_4, .int .i64 a0_5, .int .i64 a0_6, .int .i64 a0_7]) (t := 23) ?_; intro gb610 hg w3 hbox hb; have BK610 := bA (hbox); have GW610 := bA (bZ hg); have GE610 := bA (bZ hg); replace HB := bA (bS hb); clear hb hbox hg) | ((with_reducible refine gate_dst (N := 4) rfl ?_); refine bE (N := 4) (cs := #[.int .i64 0, .int .i64 0]) (t := 28) ?_; intro gb611 hg w4 hbox hb; have BK611 := bA (hbox); have GW611 := bA (bZ hg); have GE611 := bA (bZ hg); have NB610_611 := bA (bL BK610 hg); have NB611_610 := bA (bG BK610 hg); replace BK610 := bA (bB BK610 hb); replace HB := bA (bS hb); clear hb hbox hg; have hnb5 := NB610_611.out; have hnc5 := NB611_610.out; obtain ⟨hcz6_0, hcz6_1, hcz6_2, hcz6_3, hcz6_4, hcz6_5, hcz6_6, hcz6_7, hfz6_0, hfz6_1, hfz6_2, hfz6_3, hfz6_4, hfz6_5, hfz6_6, hfz6_7⟩ := bc8 BK610; obtain ⟨hcz7_0, hcz7_1, hfz7_0, hfz7_1⟩ := bc2 BK611))
 refine bodyPost_ret (results_cell_row rfl _ _ gb611 28 #[.int .i64 (wrap64 (a0_2 + (wrap64 (a0_5 * a1)))), .int .i64 (wrap64 (a0_3 + (wrap64 (a0_6 * a1))))] (0, 0) _ rfl (by (with_reducible repeat (first | refine blk_drewN ?_ _ | refine blk_drew ?_ | refine blk_alloc ?_ _)); refine blk_put (cs := #[.int .i64 (wrap64 (a0_2 + (wrap64 (a0_5 * a1)))), .int .i64 0]) ?_ 1 _ rfl; (with_reducible repeat (first | refine blk_drewN ?_ _ | refine blk_drew ?_ | refine blk_alloc ?_ _)); refine blk_put (cs := #[.int .i64 0, .int .i64 0]) ?_ 0 _ rfl; (with_reducible repeat (first | refine blk_drewN ?_ _ | refine blk_drew ?_ | refine blk_alloc ?_ _)); exact BK611.out) Try.underlying28 rfl (by kernel_rfl)) rfl ?_
 exact bF
end Go.Proofs.Ytfeekdoakoabeaa.G
