-- Written by a program of this session out of the translation; Lean checks it.
import Derived.Test.YtlifeghjcgbfnaaGx0
import Derived.Test.YtlifeghjcgbfnaaGx5
namespace Go.Proofs.Ytlifeghjcgbfnaa.G
open Go.RowKit Go.Proofs.YtlifeghjcgbfnaaW.PrintWords Go.Proofs.YtlifeghjcgbfnaaW.PrintLast Go.Proofs.YtlifeghjcgbfnaaW.PrintMore
attribute [local go_sem] max2_int min2_int max_two min_two max_three min_three max_four min_four   -- for this text's walks alone
set_option linter.unusedVariables false
set_option linter.unusedSimpArgs false

/-! ### fix_Sum: function 33 -/
def fix_Sum.l0 : Nat → Int → List Int → Int → Int → Option (Int × Bool)
 | 0, _, _, _, _ => none
 | k + 1, x2, x6, x7, x8 => if x8 < x7 then (if 0 ≤ x8 then (if x8 < (x6.length : Int) then ((fix_Add.f x2 (rd x6 x8)).bind fun bt142 => (if bt142.2 = true then (fix_Sum.l0 k bt142.1 x6 x7 (wrap64 (x8 + 1))) else (some (0, false)))) else (none)) else (none)) else (some (x2, true))
def fix_Sum.f (k : Nat) (l0 : List Int) : Option (Int × Bool) := fix_Sum.l0 k 0 l0 (l0.length : Int) 0
theorem fix_Sum.mono_l : ∀ k, (∀ y0 y1 y2 y3, LeO (fix_Sum.l0 k y0 y1 y2 y3) (fix_Sum.l0 (k + 1) y0 y1 y2 y3))
 | 0 => fun _ _ _ _ r h => by simp [fix_Sum.l0] at h
 | k + 1 => by
  have ih0 := fix_Sum.mono_l k
  ·intro y0 y1 y2 y3
   unfold fix_Sum.l0
   repeat' first
   | (with_reducible exact ih0 _ _ _ _)
   | (with_reducible exact LeO.refl _)
   | (with_reducible exact LeO.none _)
   | (with_reducible refine LeO.ite ?_ ?_)
   | (with_reducible refine LeO.bind ?_ (fun _ => ?_))
   | exact ih0 _ _ _ _
   | exact LeO.none _
   | refine LeO.ite ?_ ?_
   | refine LeO.bind ?_ (fun _ => ?_)
theorem fix_Sum.mono : ∀ a0 k, LeO (fix_Sum.f k a0) (fix_Sum.f (k + 1) a0) := by
 intro a0 k
 have ih0 := fix_Sum.mono_l k
 unfold fix_Sum.f
 repeat' first
   | (with_reducible exact ih0 _ _ _ _)
   | (with_reducible exact LeO.refl _)
   | (with_reducible exact LeO.none _)
   | (with_reducible refine LeO.ite ?_ ?_)
   | (with_reducible refine LeO.bind ?_ (fun _ => ?_))
   | exact ih0 _ _ _ _
   | exact LeO.none _
   | refine LeO.ite ?_ ?_
   | refine LeO.bind ?_ (fun _ => ?_)
set_option maxHeartbeats 8000000 in
set_option maxRecDepth 100000 in
theorem fix_Sum.calls (k : Nat) (A0 : Option Addr) (c0 : Nat) (l0 : List Int) (r1 : Int) (r2 : Bool) (w : World) (hr0 : Kd.C (Kd.int .i64) w A0 l0.length l0) (hc0 : l0.length ≤ c0) (h : fix_Sum.f k l0 = some (r1, r2)) :
  Calls Try.prog 33 #[.slice A0 l0.length c0] w fun e w' => e = .returned (.tuple #[.int .i64 r1, .bool r2]) ∧ Below w.heap.size w w' := by
 have HR0 := bA hr0
 have HC0 := bA hc0
 clear hr0 hc0
 have HB := bA (Below.refl w.heap.size w)
 have H : (fix_Sum.l0 k 0 l0 (l0.length : Int) 0) = some (r1, r2) := h
 clear h
 have H' := bA H
 clear H
 go_enter Try.func33, Try.ntmps33
 go_wp2
 go_loopg [2, 8] k (fun kq v2 v8 w' => ∃ (x2_1 : Int) (x8_1 : Int), v2 = .int .i64 x2_1 ∧ v8 = .int .i64 x8_1 ∧ Aside0 (fix_Sum.l0 kq x2_1 l0 (l0.length : Int) x8_1 = some (r1, r2)) ∧ Aside0 (kq ≤ k) ∧ Aside0 (Below w.heap.size w w'))
 case atStart => exact ⟨(0), (0), (by first | rfl | (simp; done) | (simp [*]; done)), (by first | rfl | (simp; done) | (simp [*]; done)), H', ⟨Nat.le_refl _⟩, ⟨bX⟩⟩
 case round =>
  clear H'
  obtain ⟨x2_1, x8_1, rfl, rfl, HA, HK1, HB⟩ := hrel
  cases gk with
  | zero => exact absurd HA.out (by simp [fix_Sum.l0])
  | succ k1 =>
   have H := HA.out
   clear HA
   simp only [fix_Sum.l0] at H
   by_cases c2 : x8_1 < (l0.length : Int)
   rw [if_pos c2] at H
   have c2b0 : decide (x8_1 < (l0.length : Int)) = true := decide_eq_true c2
   clear c2
   by_cases c3 : 0 ≤ x8_1
   rw [if_pos c3] at H
   have c3b0 : decide (0 ≤ x8_1) = true := decide_eq_true c3
   clear c3
   by_cases c4 : x8_1 < (l0.length : Int)
   rw [if_pos c4] at H
   have c4b0 : decide (x8_1 < (l0.length : Int)) = true := decide_eq_true c4
   clear c4
   replace H := Option.bind_eq_some_iff.mp H
   obtain ⟨⟨t142, t143⟩, A50, H⟩ := H
   replace H : (if t143 = true then (fix_Sum.l0 k1 t142 l0 (l0.length : Int) (wrap64 (x8_1 + 1))) else (some (0, false))) = some (r1, r2) := H
   have A5 := bA A50
   clear A50
   by_cases c6 : t143 = true
   subst c6
   rw [if_pos rfl] at H
   have H' := bA H
   clear H
   have p141 : 0 ≤ (x8_1 : Int) := of_decide_eq_true (by first | (with_reducible assumption) | assumption)
   have q141 : x8_1 < (l0.length : Int) := of_decide_eq_true (by first | (with_reducible assumption) | assumption)
   obtain ⟨ad141, e141, hx141_0⟩ := Kd.at_int HR0.out x8_1 p141 q141
   cases e141
   replace hx141_0 := (HB.out.cell (World.block_lt_of_cell? w _ hx141_0)).trans hx141_0
   replace p141 := eq_true p141
   replace q141 := eq_true q141
   rotate_left
   replace c6 := Bool.eq_false_iff.mpr c6
   subst c6
   rw [if_neg (show ¬ (false = true) by decide)] at H
   simp only [Option.some.injEq, Prod.mk.injEq] at H
   obtain ⟨rfl, rfl⟩ := H
   have p141 : 0 ≤ (x8_1 : Int) := of_decide_eq_true (by first | (with_reducible assumption) | assumption)
   have q141 : x8_1 < (l0.length : Int) := of_decide_eq_true (by first | (with_reducible assumption) | assumption)
   obtain ⟨ad141, e141, hx141_0⟩ := Kd.at_int HR0.out x8_1 p141 q141
   cases e141
   replace hx141_0 := (HB.out.cell (World.block_lt_of_cell? w _ hx141_0)).trans hx141_0
   replace p141 := eq_true p141
   replace q141 := eq_true q141
   rotate_left
   rw [if_neg c4] at H
   exact absurd H (by simp)
   rw [if_neg c3] at H
   exact absurd H (by simp)
   rw [if_neg c2] at H
   have c2b0 : decide (x8_1 < (l0.length : Int)) = false := decide_eq_false c2
   clear c2
   simp only [Option.some.injEq, Prod.mk.injEq] at H
   obtain ⟨rfl, rfl⟩ := H
   rotate_left
   all_goals go_wp2_with (first | ((first | ((with_reducible refine gate_callee (f := 54) rfl ?_); refine bC (some 15) Try.func54 #[.int .i64 x2_1, .int .i64 (rd l0 x8_1)] ?_) | go_at_call 54); (with_reducible refine (fix_Add.calls x2_1 (rd l0 x8_1) t142 true _ A5.out).mono ?_); rintro e wz0 ⟨rfl, hb⟩; (first | refine ⟨_, rfl, ?_⟩ | skip); have n0_ := bA (bS hb); clear HB; have HB := n0_; clear n0_; (try clear hb); (try clear hb2); (try clear hk); (try clear hi)) | ((first | ((with_reducible refine gate_callee (f := 54) rfl ?_); refine bC (some 15) Try.func54 #[.int .i64 x2_1, .int .i64 (rd l0 x8_1)] ?_) | go_at_call 54); (with_reducible refine (fix_Add.calls x2_1 (rd l0 x8_1) t142 false _ A5.out).mono ?_); rintro e wz0 ⟨rfl, hb⟩; (first | refine ⟨_, rfl, ?_⟩ | skip); have n0_ := bA (bS hb); clear HB; have HB := n0_; clear n0_; (try clear hb); (try clear hb2); (try clear hk); (try clear hi)))
   ·go_roundg k1
    case measure => have := HK1.out; omega
    case rel => exact ⟨(t142), (wrap64 (x8_1 + 1)), (by first | rfl | (simp; done) | (simp [*]; done)), (by first | rfl | (simp; done) | (simp [*]; done)), H', ⟨by have := HK1.out; omega⟩, ⟨bX⟩⟩
   ·go_ret2
    exact bF
   ·go_ret2
    exact bF
/-! ### fall_Above: function 8 -/
def fall_Above.f (k : Nat) (a0 : Int) (a1 : Int) (a2 : Int) (a3 : Int) : Option (Int × Bool) := (fall_may.f a0 a1 a2).bind fun t144 => (if t144 = true then ((fall_within.f a3 0 16777216).bind fun t145 => (if t145 = true then ((fix_Sum.f k (([wrap64 (2 * a0), wrap64 ((wrap64 (2 * a1)) * a3), wrap64 ((wrap64 ((wrap64 (-a2)) * a3)) * a3)] : List Int))).bind fun bt149 => (some (bt149.1, bt149.2))) else (some (0, false)))) else (some (0, false)))
theorem fall_Above.mono : ∀ a0 a1 a2 a3 k, LeO (fall_Above.f k a0 a1 a2 a3) (fall_Above.f (k + 1) a0 a1 a2 a3) := by
 intro a0 a1 a2 a3 k
 unfold fall_Above.f
 repeat' first
   | (with_reducible exact fix_Sum.mono _ _)
   | (with_reducible exact LeO.refl _)
   | (with_reducible exact LeO.none _)
   | (with_reducible refine LeO.ite ?_ ?_)
   | (with_reducible refine LeO.bind ?_ (fun _ => ?_))
   | exact fix_Sum.mono _ _
   | exact LeO.none _
   | refine LeO.ite ?_ ?_
   | refine LeO.bind ?_ (fun _ => ?_)
set_option maxHeartbeats 8000000 in
set_option maxRecDepth 100000 in
theorem fall_Above.calls (k : Nat) (a0 : Int) (a1 : Int) (a2 : Int) (a3 : Int) (r1 : Int) (r2 : Bool) (w : World) (h : fall_Above.f k a0 a1 a2 a3 = some (r1, r2)) :
  Calls Try.prog 8 #[.int .i64 a0, .int .i64 a1, .int .i64 a2, .int .i64 a3] w fun e w' => e = .returned (.tuple #[.int .i64 r1, .bool r2]) ∧ Below w.heap.size w w' := by
 have HB := bA (Below.refl w.heap.size w)
 have H : ((fall_may.f a0 a1 a2).bind fun t144 => (if t144 = true then ((fall_within.f a3 0 16777216).bind fun t145 => (if t145 = true then ((fix_Sum.f k (([wrap64 (2 * a0), wrap64 ((wrap64 (2 * a1)) * a3), wrap64 ((wrap64 ((wrap64 (-a2)) * a3)) * a3)] : List Int))).bind fun bt149 => (some (bt149.1, bt149.2))) else (some (0, false)))) else (some (0, false)))) = some (r1, r2) := h
 clear h
 replace H := Option.bind_eq_some_iff.mp H
 obtain ⟨t144, A50, H⟩ := H
 replace H : (if t144 = true then ((fall_within.f a3 0 16777216).bind fun t145 => (if t145 = true then ((fix_Sum.f k (([wrap64 (2 * a0), wrap64 ((wrap64 (2 * a1)) * a3), wrap64 ((wrap64 ((wrap64 (-a2)) * a3)) * a3)] : List Int))).bind fun bt149 => (some (bt149.1, bt149.2))) else (some (0, false)))) else (some (0, false))) = some (r1, r2) := H
 have A5 := bA A50
 clear A50
 by_cases c6 : t144 = true
 subst c6
 rw [if_pos rfl] at H
 replace H := Option.bind_eq_some_iff.mp H
 obtain ⟨t145, A70, H⟩ := H
 replace H : (if t145 = true then ((fix_Sum.f k (([wrap64 (2 * a0), wrap64 ((wrap64 (2 * a1)) * a3), wrap64 ((wrap64 ((wrap64 (-a2)) * a3)) * a3)] : List Int))).bind fun bt149 => (some (bt149.1, bt149.2))) else (some (0, false))) = some (r1, r2) := H
 have A7 := bA A70
 clear A70
 by_cases c8 : t145 = true
 subst c8
 rw [if_pos rfl] at H
 obtain ⟨y146, hy146⟩ : ∃ y_ : List Int, y_ = (([wrap64 (2 * a0), wrap64 ((wrap64 (2 * a1)) * a3), wrap64 ((wrap64 ((wrap64 (-a2)) * a3)) * a3)] : List Int)) := ⟨_, rfl⟩
 replace H : ((fix_Sum.f k y146).bind fun bt149 => (some (bt149.1, bt149.2))) = some (r1, r2) := by first | (rw [hy146]; with_reducible exact H) | (have H2_ := (Option.bind_some _ _).symm.trans H; rw [hy146]; with_reducible exact H2_) | (have H2_ := (Option.bind_some _ _).symm.trans H; with_reducible exact H2_) | with_reducible exact H | (rw [hy146]; exact H) | exact H
 have Ny146 := bA hy146
 clear hy146
 replace H := Option.bind_eq_some_iff.mp H
 obtain ⟨⟨t149, t150⟩, A90, H⟩ := H
 replace H : (some (t149, t150)) = some (r1, r2) := H
 have A9 := bA A90
 clear A90
 simp only [Option.some.injEq, Prod.mk.injEq] at H
 obtain ⟨rfl, rfl⟩ := H
 rotate_left
 replace c8 := Bool.eq_false_iff.mpr c8
 subst c8
 rw [if_neg (show ¬ (false = true) by decide)] at H
 simp only [Option.some.injEq, Prod.mk.injEq] at H
 obtain ⟨rfl, rfl⟩ := H
 rotate_left
 replace c6 := Bool.eq_false_iff.mpr c6
 subst c6
 rw [if_neg (show ¬ (false = true) by decide)] at H
 simp only [Option.some.injEq, Prod.mk.injEq] at H
 obtain ⟨rfl, rfl⟩ := H
 rotate_left
 all_goals go_enter Try.func8, Try.ntmps8
 all_goals go_wp2_with (first | ((first | ((with_reducible refine gate_callee (f := 30) rfl ?_); refine bC (some 13) Try.func30 #[.int .i64 a0, .int .i64 a1, .int .i64 a2] ?_) | go_at_call 30); (with_reducible refine (fall_may.calls a0 a1 a2 true _ A5.out).mono ?_); rintro e w' ⟨rfl, ⟨nd, rfl⟩⟩; (first | refine ⟨_, rfl, ?_⟩ | skip)) | (go_at_call 32; (with_reducible refine (fall_within.calls a3 0 16777216 true _ A7.out).mono ?_); rintro e w' ⟨rfl, ⟨nd, rfl⟩⟩) | ((with_reducible refine gate_dst (N := 32) rfl ?_); refine Kd.R_lit (Kd.int .i64) _ 2 ?hg (N := 32) ?hd (xs := ([wrap64 (2 * a0), wrap64 ((wrap64 (2 * a1)) * a3), wrap64 ((wrap64 ((wrap64 (-a2)) * a3)) * a3)] : List Int)) (inner := [.int .i64 (wrap64 (2 * a0)), .int .i64 (wrap64 ((wrap64 (2 * a1)) * a3)), .int .i64 (wrap64 ((wrap64 ((wrap64 (-a2)) * a3)) * a3))]) (ok := fun _ => True) (okp := fun _ => True) ?hr ?hp (fun _ hk => hk) trivial (Below.refl _ _) (Nat.le_refl _) (by simp) ?_; (case hd => rfl); (case hg => rfl); (case hr => first | (go_simp; done) | (go_simp; rfl)); (case hp => exact (Reps.one (show Kd.M (Kd.int .i64) _ _ _ (wrap64 (2 * a0)) [.int .i64 (wrap64 (2 * a0))] from rfl) (Reps.one (show Kd.M (Kd.int .i64) _ _ _ (wrap64 ((wrap64 (2 * a1)) * a3)) [.int .i64 (wrap64 ((wrap64 (2 * a1)) * a3))] from rfl) (Reps.one (show Kd.M (Kd.int .i64) _ _ _ (wrap64 ((wrap64 ((wrap64 (-a2)) * a3)) * a3)) [.int .i64 (wrap64 ((wrap64 ((wrap64 (-a2)) * a3)) * a3))] from rfl) (Reps.none _ _))))); intro v147 wz0 ho11 hb hg_ hnew_; clear hg_ hnew_; (first | rw [← Ny146.out] at ho11 | (simp only [Int.reduceToNat] at ho11; rw [← Ny146.out] at ho11)); have n0_ := bA (Kd.R_lower ho11 bY); have n1_ := bA (bS hb); clear HB; have HO148 := n0_; have HB := n1_; clear n0_ n1_; clear hb ho11; obtain ⟨Ao12, co12, eo12⟩ := Kd.R_slice HO148.out; subst eo12) | ((first | ((with_reducible refine gate_callee (f := 33) rfl ?_); refine bC (some 33) Try.func33 #[.slice Ao12 y146.length co12] ?_) | go_at_call 33); (with_reducible refine (fix_Sum.calls k _ _ y146 t149 t150 _ ?side1 ?side2 A9.out).mono ?_); (case side1 => repeat (first | exact (Kd.R_reads' HO148.out).2.2 | (with_reducible refine Kd.C_alloc ?_ _) | (with_reducible refine Kd.C_drewN ?_ _) | (with_reducible refine Kd.C_drew ?_))); (case side2 => exact (Kd.R_reads' HO148.out).2.1); rintro e wz1 ⟨rfl, hb⟩; (first | refine ⟨_, rfl, ?_⟩ | skip); have n0_ := bA (Kd.R_below (by (with_reducible repeat (first | apply Kd.R_alloc | apply Kd.R_drewN | apply Kd.R_drew)); exact HO148.out) hb); have n1_ := bA (bS hb); clear HO148; clear HB; have HO148 := n0_; have HB := n1_; clear n0_ n1_; (try clear hb); (try clear hb2); (try clear hk); (try clear hi)) | (go_at_call 32; (with_reducible refine (fall_within.calls a3 0 16777216 false _ A7.out).mono ?_); rintro e w' ⟨rfl, ⟨nd, rfl⟩⟩) | ((first | ((with_reducible refine gate_callee (f := 30) rfl ?_); refine bC (some 13) Try.func30 #[.int .i64 a0, .int .i64 a1, .int .i64 a2] ?_) | go_at_call 30); (with_reducible refine (fall_may.calls a0 a1 a2 false _ A5.out).mono ?_); rintro e w' ⟨rfl, ⟨nd, rfl⟩⟩; (first | refine ⟨_, rfl, ?_⟩ | skip)))
 all_goals (go_ret2; exact bF)
/-! ### fall_Top: function 9 -/
def fall_Top.l0 : Nat → Int → Int → Int → Int → List Int → Int → Int → Option (Int × Bool)
 | 0, _, _, _, _, _, _, _ => none
 | k + 1, x0, x1, x2, x8, x29, x30, x31 => if x31 < x30 then (if 0 ≤ x31 then (if x31 < (x29.length : Int) then ((fall_Above.f k x0 x1 x2 (rd x29 x31)).bind fun bt156 => (if bt156.2 = true then (fall_Top.l0 k x0 x1 x2 (mx x8 bt156.1) x29 x30 (wrap64 (x31 + 1))) else (some (0, false)))) else (none)) else (none)) else (some (x8, true))
def fall_Top.f (k : Nat) (a0 : Int) (a1 : Int) (a2 : Int) : Option (Int × Bool) := (fall_may.f a0 a1 a2).bind fun t151 => (if t151 = true then (if a1 ≥ 0 then (if a2 = 0 then (none) else ((some (([wrap64 (Int.tdiv a1 a2), wrap64 ((wrap64 (Int.tdiv a1 a2)) + 1)] : List Int) : List Int)).bind fun y152 => (fall_Top.l0 k a0 a1 a2 (wrap64 (2 * a0)) y152 (y152.length : Int) 0))) else (some (wrap64 (2 * a0), true))) else (some (0, false)))
theorem fall_Top.mono_l : ∀ k, (∀ y0 y1 y2 y3 y4 y5 y6, LeO (fall_Top.l0 k y0 y1 y2 y3 y4 y5 y6) (fall_Top.l0 (k + 1) y0 y1 y2 y3 y4 y5 y6))
 | 0 => fun _ _ _ _ _ _ _ r h => by simp [fall_Top.l0] at h
 | k + 1 => by
  have ih0 := fall_Top.mono_l k
  ·intro y0 y1 y2 y3 y4 y5 y6
   unfold fall_Top.l0
   repeat' first
   | (with_reducible exact ih0 _ _ _ _ _ _ _)
   | (with_reducible exact fall_Above.mono _ _ _ _ _)
   | (with_reducible exact LeO.refl _)
   | (with_reducible exact LeO.none _)
   | (with_reducible refine LeO.ite ?_ ?_)
   | (with_reducible refine LeO.bind ?_ (fun _ => ?_))
   | exact ih0 _ _ _ _ _ _ _
   | exact fall_Above.mono _ _ _ _ _
   | exact LeO.none _
   | refine LeO.ite ?_ ?_
   | refine LeO.bind ?_ (fun _ => ?_)
theorem fall_Top.mono : ∀ a0 a1 a2 k, LeO (fall_Top.f k a0 a1 a2) (fall_Top.f (k + 1) a0 a1 a2) := by
 intro a0 a1 a2 k
 have ih0 := fall_Top.mono_l k
 unfold fall_Top.f
 repeat' first
   | (with_reducible exact ih0 _ _ _ _ _ _ _)
   | (with_reducible exact fall_Above.mono _ _ _ _ _)
   | (with_reducible exact LeO.refl _)
   | (with_reducible exact LeO.none _)
   | (with_reducible refine LeO.ite ?_ ?_)
   | (with_reducible refine LeO.bind ?_ (fun _ => ?_))
   | exact ih0 _ _ _ _ _ _ _
   | exact fall_Above.mono _ _ _ _ _
   | exact LeO.none _
   | refine LeO.ite ?_ ?_
   | refine LeO.bind ?_ (fun _ => ?_)
def fall_Top.T5 : Bool × List (List Nat × List Nat) := (true, [([], []), ([], []), ([0, 1], [0, 1]), ([], []), ([], []), ([3, 4], [3, 4]), ([5], [5]), ([2, 6], [2, 6]), ([7], [7]), ([], [])])
def fall_Top.B5 : List Nat := [0, 0, 3, 0, 0, 24, 56, 127, 255, 0]
theorem fall_Top.tab5 : rtab .any (opsOf Try.f9 5) = fall_Top.T5 := by kernel_rfl
theorem fall_Top.bits5 : waitsOk fall_Top.T5.2 fall_Top.B5 = true := by kernel_rfl
set_option maxHeartbeats 8000000 in
set_option maxRecDepth 100000 in
theorem fall_Top.calls (k : Nat) (a0 : Int) (a1 : Int) (a2 : Int) (r1 : Int) (r2 : Bool) (w : World) (h : fall_Top.f k a0 a1 a2 = some (r1, r2)) :
  Calls Try.prog 9 #[.int .i64 a0, .int .i64 a1, .int .i64 a2] w fun e w' => e = .returned (.tuple #[.int .i64 r1, .bool r2]) ∧ Below w.heap.size w w' := by
 have HB := bA (Below.refl w.heap.size w)
 have H : ((fall_may.f a0 a1 a2).bind fun t151 => (if t151 = true then (if a1 ≥ 0 then (if a2 = 0 then (none) else ((some (([wrap64 (Int.tdiv a1 a2), wrap64 ((wrap64 (Int.tdiv a1 a2)) + 1)] : List Int) : List Int)).bind fun y152 => (fall_Top.l0 k a0 a1 a2 (wrap64 (2 * a0)) y152 (y152.length : Int) 0))) else (some (wrap64 (2 * a0), true))) else (some (0, false)))) = some (r1, r2) := h
 clear h
 replace H := Option.bind_eq_some_iff.mp H
 obtain ⟨t151, A40, H⟩ := H
 replace H : (if t151 = true then (if a1 ≥ 0 then (if a2 = 0 then (none) else ((some (([wrap64 (Int.tdiv a1 a2), wrap64 ((wrap64 (Int.tdiv a1 a2)) + 1)] : List Int) : List Int)).bind fun y152 => (fall_Top.l0 k a0 a1 a2 (wrap64 (2 * a0)) y152 (y152.length : Int) 0))) else (some (wrap64 (2 * a0), true))) else (some (0, false))) = some (r1, r2) := H
 have A4 := bA A40
 clear A40
 by_cases c5 : t151 = true
 ·subst c5
  rw [if_pos rfl] at H
  by_cases c6 : a1 ≥ 0
  ·rw [if_pos c6] at H
   have c6b0 : decide (0 ≤ a1) = true := decide_eq_true c6
   clear c6
   by_cases c7 : a2 = 0
   ·rw [if_pos c7] at H
    exact absurd H (by simp)
   ·rw [if_neg c7] at H
    have c7b0 : (a2 == 0) = false := beq_eq_false_iff_ne.mpr c7
    have c7b1 : (a2 != 0) = true := bne_iff_ne.mpr c7
    obtain ⟨y152, hy152⟩ : ∃ y_ : List Int, y_ = (([wrap64 (Int.tdiv a1 a2), wrap64 ((wrap64 (Int.tdiv a1 a2)) + 1)] : List Int)) := ⟨_, rfl⟩
    replace H : (fall_Top.l0 k a0 a1 a2 (wrap64 (2 * a0)) y152 (y152.length : Int) 0) = some (r1, r2) := by first | (rw [hy152]; with_reducible exact H) | (have H2_ := (Option.bind_some _ _).symm.trans H; rw [hy152]; with_reducible exact H2_) | (have H2_ := (Option.bind_some _ _).symm.trans H; with_reducible exact H2_) | with_reducible exact H | (rw [hy152]; exact H) | exact H
    have Ny152 := bA hy152
    clear hy152
    have H' := bA H
    clear H
    go_enter Try.func9, Try.ntmps9
    try go_wp2_with (first | ((first | ((with_reducible refine gate_callee (f := 30) rfl ?_); refine bC (some 16) Try.func30 #[.int .i64 a0, .int .i64 a1, .int .i64 a2] ?_) | go_at_call 30); (with_reducible refine (fall_may.calls a0 a1 a2 true _ A4.out).mono ?_); rintro e w' ⟨rfl, ⟨nd, rfl⟩⟩; (first | refine ⟨_, rfl, ?_⟩ | skip)))
    (try simp only [World.drewN_drewN])
    (rw [drewN_self w]; generalize hq_ : World.drewN w _ = w8; have n0_ : Aside0 (Below w.heap.size w w8) := ⟨by rw [← hq_]; exact pw_below_drewN HB.out _⟩; clear HB hq_; have HB := n0_; clear n0_)
    have n0_ := bA (below_drew1 HB.out)
    clear HB
    have HB := n0_
    clear n0_
    refine start_ (n := 10) (S := fun w' => True) (ds := []) #[false, false, false, false, false, false, false, false, false, false] (by kernel_rfl) rfl rfl trivial (fun hHeld => ?_); refine with_tabW fall_Top.tab5 fall_Top.bits5 (fun HT_ HW_ => ?_)
    generalize w8.drew = w9 at HB hHeld ⊢
    refine pure_ (i := 0) (N := some 22) (v := ?_) (a' := ?_) #[true, false, false, false, false, false, false, false, false, false] rfl rfl (any_of HT_.out (by kernel_rfl)) (fun _ _ _ h => h) (Or.inl ⟨by rfl, ?_⟩) ?_ ?_
    rotate_left
    ·intro w'
     go_simp
     with_reducible rfl
    rotate_left
    ·simp only [Act.put, List.setIfInBounds_toArray, List.set_cons_zero, List.set_cons_succ, i64_w, i32_w]
     rfl
    refine pure_ (i := 1) (N := some 23) (v := ?_) (a' := ?_) #[true, true, false, false, false, false, false, false, false, false] rfl rfl (any_of HT_.out (by kernel_rfl)) (fun _ _ _ h => h) (Or.inl ⟨by rfl, ?_⟩) ?_ ?_
    rotate_left
    ·intro w'
     go_simp
     with_reducible rfl
    rotate_left
    ·simp only [Act.put, List.setIfInBounds_toArray, List.set_cons_zero, List.set_cons_succ, i64_w, i32_w]
     rfl
    refine pure_ (i := 2) (N := some 24) (v := ?_) (a' := ?_) #[true, true, true, false, false, false, false, false, false, false] rfl rfl (any_of HT_.out (by kernel_rfl)) (fun _ _ _ h => h) (Or.inl ⟨by rfl, ?_⟩) ?_ ?_
    rotate_left
    ·intro w'
     go_simp
     with_reducible rfl
    rotate_left
    ·simp only [Act.put, List.setIfInBounds_toArray, List.set_cons_zero, List.set_cons_succ, i64_w, i32_w]
     rfl
    refine pure_ (i := 3) (N := some 25) (v := ?_) (a' := ?_) #[true, true, true, true, false, false, false, false, false, false] rfl rfl (any_of HT_.out (by kernel_rfl)) (fun _ _ _ h => h) (Or.inl ⟨by rfl, ?_⟩) ?_ ?_
    rotate_left
    ·intro w'
     go_simp
     with_reducible rfl
    rotate_left
    ·simp only [Act.put, List.setIfInBounds_toArray, List.set_cons_zero, List.set_cons_succ, i64_w, i32_w]
     rfl
    refine pure_ (i := 4) (N := some 26) (v := ?_) (a' := ?_) #[true, true, true, true, true, false, false, false, false, false] rfl rfl (any_of HT_.out (by kernel_rfl)) (fun _ _ _ h => h) (Or.inl ⟨by rfl, ?_⟩) ?_ ?_
    rotate_left
    ·intro w'
     go_simp
     with_reducible rfl
    rotate_left
    ·simp only [Act.put, List.setIfInBounds_toArray, List.set_cons_zero, List.set_cons_succ, i64_w, i32_w]
     rfl
    refine pure_ (i := 5) (N := some 27) (v := ?_) (a' := ?_) #[true, true, true, true, true, true, false, false, false, false] rfl rfl (any_of HT_.out (by kernel_rfl)) (fun _ _ _ h => h) (Or.inl ⟨by rfl, ?_⟩) ?_ ?_
    rotate_left
    ·intro w'
     go_simp
     with_reducible rfl
    rotate_left
    ·simp only [Act.put, List.setIfInBounds_toArray, List.set_cons_zero, List.set_cons_succ, i64_w, i32_w]
     rfl
    refine pure_ (i := 6) (N := some 28) (v := ?_) (a' := ?_) #[true, true, true, true, true, true, true, false, false, false] rfl rfl (any_of HT_.out (by kernel_rfl)) (fun _ _ _ h => h) (Or.inl ⟨by rfl, ?_⟩) ?_ ?_
    rotate_left
    ·intro w'
     go_simp
     with_reducible rfl
    rotate_left
    ·simp only [Act.put, List.setIfInBounds_toArray, List.set_cons_zero, List.set_cons_succ, i64_w, i32_w]
     rfl
    refine pure_ (i := 9) (N := some 31) (v := ?_) (a' := ?_) #[true, true, true, true, true, true, true, false, false, true] rfl rfl (any_of HT_.out (by kernel_rfl)) (fun _ _ _ h => h) (Or.inl ⟨by rfl, ?_⟩) ?_ ?_
    rotate_left
    ·intro w'
     go_simp
     with_reducible rfl
    rotate_left
    ·simp only [Act.put, List.setIfInBounds_toArray, List.set_cons_zero, List.set_cons_succ, i64_w, i32_w]
     rfl
    refine one_ (i := 7) (N := some 29) #[true, true, true, true, true, true, true, true, false, true] rfl rfl (one_of HT_.out (by kernel_rfl)) (by decide) (fun K hK => ?_)
    refine Kd.R_lit_step (Kd.int .i64) _ 2 ?hg (N := 29) ?hd (xs := ([wrap64 (Int.tdiv a1 a2), wrap64 ((wrap64 (Int.tdiv a1 a2)) + 1)] : List Int)) (inner := [.int .i64 (wrap64 (Int.tdiv a1 a2)), .int .i64 (wrap64 ((wrap64 (Int.tdiv a1 a2)) + 1))]) (ok := fun _ => True) (okp := fun _ => True) ?hr ?hp (fun _ hk => hk) trivial (Below.refl _ _) (Nat.le_refl _) (by simp) ?_; (case hd => rfl); (case hg => rfl); (case hr => first | (go_simp; done) | (go_simp; rfl)); (case hp => exact (Reps.one (show Kd.M (Kd.int .i64) _ _ _ (wrap64 (Int.tdiv a1 a2)) [.int .i64 (wrap64 (Int.tdiv a1 a2))] from rfl) (Reps.one (show Kd.M (Kd.int .i64) _ _ _ (wrap64 ((wrap64 (Int.tdiv a1 a2)) + 1)) [.int .i64 (wrap64 ((wrap64 (Int.tdiv a1 a2)) + 1))] from rfl) (Reps.none _ _))))
    intro v153 w10 ho11 hb hg_ hnew_
    clear hg_ hnew_
    (first | rw [← Ny152.out] at ho11 | (simp only [Int.reduceToNat] at ho11; rw [← Ny152.out] at ho11))
    have n0_ := bA (Kd.R_lower ho11 bY)
    have n1_ := bA (bS hb)
    clear HB
    have HO154 := n0_
    have HB := n1_
    clear n0_ n1_
    clear hb ho11
    obtain ⟨Ao12, co12, eo12⟩ := Kd.R_slice HO154.out
    (first | subst eo12 | (injection eo12 with f1_ f2_ f3_; have f4_ := f1_.symm; have f5_ := f3_.symm; clear f1_ f2_ f3_; subst f4_; subst f5_))
    refine hK.out _ _ trivial (fun hHeld => ?_)
    clear hK K
    refine norm_ (a' := ?_) ?_ ?_
    rotate_left
    ·show Act.put _ (some 29) _ = _
     simp only [Act.put, List.setIfInBounds_toArray, List.set_cons_zero, List.set_cons_succ, i64_w, i32_w]
     rfl
    refine pure_ (i := 8) (N := some 30) (v := ?_) (a' := ?_) #[true, true, true, true, true, true, true, true, true, true] rfl rfl (any_of HT_.out (by kernel_rfl)) (fun _ _ _ h => h) (Or.inl ⟨by rfl, ?_⟩) ?_ ?_
    rotate_left
    ·intro w'
     go_simp
     with_reducible rfl
    rotate_left
    ·simp only [Act.put, List.setIfInBounds_toArray, List.set_cons_zero, List.set_cons_succ, i64_w, i32_w]
     rfl
    refine done_ (done_of HT_.out (by kernel_rfl)) ?_
    try go_wp2
    go_loopg [8, 31] k (fun kq v8 v31 w' => ∃ (x8_1 : Int) (x31_1 : Int), v8 = .int .i64 x8_1 ∧ v31 = .int .i64 x31_1 ∧ Aside0 (fall_Top.l0 kq a0 a1 a2 x8_1 y152 (y152.length : Int) x31_1 = some (r1, r2)) ∧ Aside0 (kq ≤ k) ∧ Aside0 (Kd.R (Kd.int .i64) 2 w' w.heap.size (fun _ => True) (.slice Ao12 y152.length co12) y152) ∧ Aside0 (Below w.heap.size w w'))
    case atStart => exact ⟨(wrap64 (2 * a0)), (0), (by first | rfl | (simp; done) | (simp [*]; done)), (by first | rfl | (simp; done) | (simp [*]; done)), H', ⟨Nat.le_refl _⟩, ⟨by (with_reducible repeat (first | apply Kd.R_alloc | apply Kd.R_drewN | apply Kd.R_drew)); exact HO154.out⟩, ⟨bX⟩⟩
    case round =>
     clear H'
     try clear p2
     try clear c3
     try clear c5
     try clear c6
     try clear c6b0
     try clear p6
     try clear c7
     try clear c7b0
     try clear c7b1
     try clear c9
     obtain ⟨x8_1, x31_1, rfl, rfl, HA, HK1, HO_29, HB⟩ := hrel
     cases gk with
     | zero => exact absurd HA.out (by simp [fall_Top.l0])
     | succ k1 =>
      have H := HA.out
      clear HA
      simp only [fall_Top.l0] at H
      by_cases c13 : x31_1 < (y152.length : Int)
      rw [if_pos c13] at H
      have c13b0 : decide (x31_1 < (y152.length : Int)) = true := decide_eq_true c13
      clear c13
      by_cases c14 : 0 ≤ x31_1
      rw [if_pos c14] at H
      have c14b0 : decide (0 ≤ x31_1) = true := decide_eq_true c14
      clear c14
      by_cases c15 : x31_1 < (y152.length : Int)
      rw [if_pos c15] at H
      have c15b0 : decide (x31_1 < (y152.length : Int)) = true := decide_eq_true c15
      clear c15
      replace H := Option.bind_eq_some_iff.mp H
      obtain ⟨⟨t156, t157⟩, A160, H⟩ := H
      replace H : (if t157 = true then (fall_Top.l0 k1 a0 a1 a2 (mx x8_1 t156) y152 (y152.length : Int) (wrap64 (x31_1 + 1))) else (some (0, false))) = some (r1, r2) := H
      have A16 := bA A160
      clear A160
      by_cases c17 : t157 = true
      subst c17
      rw [if_pos rfl] at H
      obtain ⟨ji18, hji18⟩ : ∃ j_ : Int, (mx x8_1 t156) = j_ := ⟨_, rfl⟩
      replace H : (fall_Top.l0 k1 a0 a1 a2 ji18 y152 (y152.length : Int) (wrap64 (x31_1 + 1))) = some (r1, r2) := by first | (rw [hji18] at H; exact H) | (simp only [hji18] at H ⊢; exact H)
      (try rw [hji18] at A16)
      have hji18_ : (if x8_1 < t156 then t156 else x8_1) = ji18 := hji18
      have H' := bA H
      clear H
      have p155 : 0 ≤ (x31_1 : Int) := of_decide_eq_true (by first | (with_reducible assumption) | assumption)
      have q155 : x31_1 < (y152.length : Int) := of_decide_eq_true (by first | (with_reducible assumption) | assumption)
      obtain ⟨ad155, e155, hx155_0⟩ := Kd.at_int (Kd.R_reads' HO_29.out).2.2 x31_1 p155 q155
      cases e155
      replace p155 := eq_true p155
      replace q155 := eq_true q155
      rotate_left
      replace c17 := Bool.eq_false_iff.mpr c17
      subst c17
      rw [if_neg (show ¬ (false = true) by decide)] at H
      simp only [Option.some.injEq, Prod.mk.injEq] at H
      obtain ⟨rfl, rfl⟩ := H
      have p155 : 0 ≤ (x31_1 : Int) := of_decide_eq_true (by first | (with_reducible assumption) | assumption)
      have q155 : x31_1 < (y152.length : Int) := of_decide_eq_true (by first | (with_reducible assumption) | assumption)
      obtain ⟨ad155, e155, hx155_0⟩ := Kd.at_int (Kd.R_reads' HO_29.out).2.2 x31_1 p155 q155
      cases e155
      replace p155 := eq_true p155
      replace q155 := eq_true q155
      rotate_left
      rw [if_neg c15] at H
      exact absurd H (by simp)
      rw [if_neg c14] at H
      exact absurd H (by simp)
      rw [if_neg c13] at H
      have c13b0 : decide (x31_1 < (y152.length : Int)) = false := decide_eq_false c13
      clear c13
      simp only [Option.some.injEq, Prod.mk.injEq] at H
      obtain ⟨rfl, rfl⟩ := H
      rotate_left
      all_goals go_wp2_with (first | ((first | ((with_reducible refine gate_callee (f := 8) rfl ?_); refine bC (some 40) Try.func8 #[.int .i64 a0, .int .i64 a1, .int .i64 a2, .int .i64 (rd y152 x31_1)] ?_) | go_at_call 8); (with_reducible refine (fall_Above.calls k1 a0 a1 a2 (rd y152 x31_1) t156 true _ A16.out).mono ?_); rintro e wz0 ⟨rfl, hb⟩; (first | refine ⟨_, rfl, ?_⟩ | skip); have n0_ := bA (Kd.R_below (by (with_reducible repeat (first | apply Kd.R_alloc | apply Kd.R_drewN | apply Kd.R_drew)); exact HO_29.out) hb); have n1_ := bA (bS hb); clear HO_29; clear HB; have HO_29 := n0_; have HB := n1_; clear n0_ n1_; (try clear hb); (try clear hb2); (try clear hk); (try clear hi)) | ((first | ((with_reducible refine gate_callee (f := 8) rfl ?_); refine bC (some 40) Try.func8 #[.int .i64 a0, .int .i64 a1, .int .i64 a2, .int .i64 (rd y152 x31_1)] ?_) | go_at_call 8); (with_reducible refine (fall_Above.calls k1 a0 a1 a2 (rd y152 x31_1) t156 false _ A16.out).mono ?_); rintro e wz0 ⟨rfl, hb⟩; (first | refine ⟨_, rfl, ?_⟩ | skip); have n0_ := bA (Kd.R_below (by (with_reducible repeat (first | apply Kd.R_alloc | apply Kd.R_drewN | apply Kd.R_drew)); exact HO_29.out) hb); have n1_ := bA (bS hb); clear HO_29; clear HB; have HO_29 := n0_; have HB := n1_; clear n0_ n1_; (try clear hb); (try clear hb2); (try clear hk); (try clear hi)))
      ·go_roundg k1
       case measure => have := HK1.out; omega
       case rel => exact ⟨(ji18), (wrap64 (x31_1 + 1)), (by first | rfl | (simp; done) | (simp only [← hji18] <;> (first | rfl | simp)) | (simp [*]; done)), (by first | rfl | (simp; done) | (simp [*]; done)), H', ⟨by have := HK1.out; omega⟩, ⟨by (with_reducible repeat (first | apply Kd.R_alloc | apply Kd.R_drewN | apply Kd.R_drew)); exact HO_29.out⟩, ⟨bX⟩⟩
      ·go_ret2
       exact bF
      ·go_ret2
       exact bF
  ·rw [if_neg c6] at H
   have c6b0 : decide (0 ≤ a1) = false := decide_eq_false c6
   clear c6
   simp only [Option.some.injEq, Prod.mk.injEq] at H
   obtain ⟨rfl, rfl⟩ := H
   go_enter Try.func9, Try.ntmps9
   go_wp2_with (first | ((first | ((with_reducible refine gate_callee (f := 30) rfl ?_); refine bC (some 16) Try.func30 #[.int .i64 a0, .int .i64 a1, .int .i64 a2] ?_) | go_at_call 30); (with_reducible refine (fall_may.calls a0 a1 a2 true _ A4.out).mono ?_); rintro e w' ⟨rfl, ⟨nd, rfl⟩⟩; (first | refine ⟨_, rfl, ?_⟩ | skip)))
   go_ret2
   exact bF
 ·replace c5 := Bool.eq_false_iff.mpr c5
  subst c5
  rw [if_neg (show ¬ (false = true) by decide)] at H
  simp only [Option.some.injEq, Prod.mk.injEq] at H
  obtain ⟨rfl, rfl⟩ := H
  go_enter Try.func9, Try.ntmps9
  go_wp2_with (first | ((first | ((with_reducible refine gate_callee (f := 30) rfl ?_); refine bC (some 16) Try.func30 #[.int .i64 a0, .int .i64 a1, .int .i64 a2] ?_) | go_at_call 30); (with_reducible refine (fall_may.calls a0 a1 a2 false _ A4.out).mono ?_); rintro e w' ⟨rfl, ⟨nd, rfl⟩⟩; (first | refine ⟨_, rfl, ?_⟩ | skip)))
  go_ret2
  exact bF
/-! ### apogeeref17_May: function 10 -/
def apogeeref17_May.f (a0 : Int) (a1 : Int) (a2 : Int) : Option (Bool) := if a0 ≥ (-2147483648) then (if a0 ≤ 2147483648 then (if a1 ≥ (-131072) then (if a1 ≤ 131072 then (if a2 ≥ 1 then (some (decide (a2 ≤ 100))) else (some false)) else (some false)) else (some false)) else (some false)) else (some false)
set_option maxHeartbeats 8000000 in
set_option maxRecDepth 100000 in
theorem apogeeref17_May.calls (a0 : Int) (a1 : Int) (a2 : Int) (r : Bool) (w : World) (h : apogeeref17_May.f a0 a1 a2 = some r) :
  Calls Try.prog 10 #[.int .i64 a0, .int .i64 a1, .int .i64 a2] w fun e w' => e = .returned (.bool r) ∧ Drawn0 w w' := by
 have H : (if a0 ≥ (-2147483648) then (if a0 ≤ 2147483648 then (if a1 ≥ (-131072) then (if a1 ≤ 131072 then (if a2 ≥ 1 then (some (decide (a2 ≤ 100))) else (some false)) else (some false)) else (some false)) else (some false)) else (some false)) = some r := h
 clear h
 by_cases c4 : a0 ≥ (-2147483648)
 rw [if_pos c4] at H
 have c4b0 : decide ((-2147483648) ≤ a0) = true := decide_eq_true c4
 clear c4
 by_cases c5 : a0 ≤ 2147483648
 rw [if_pos c5] at H
 have c5b0 : decide (a0 ≤ 2147483648) = true := decide_eq_true c5
 clear c5
 by_cases c6 : a1 ≥ (-131072)
 rw [if_pos c6] at H
 have c6b0 : decide ((-131072) ≤ a1) = true := decide_eq_true c6
 clear c6
 by_cases c7 : a1 ≤ 131072
 rw [if_pos c7] at H
 have c7b0 : decide (a1 ≤ 131072) = true := decide_eq_true c7
 clear c7
 by_cases c8 : a2 ≥ 1
 rw [if_pos c8] at H
 have c8b0 : decide (1 ≤ a2) = true := decide_eq_true c8
 clear c8
 obtain rfl := Option.some.inj H
 rotate_left
 rw [if_neg c8] at H
 have c8b0 : decide (1 ≤ a2) = false := decide_eq_false c8
 clear c8
 obtain rfl := Option.some.inj H
 rotate_left
 rw [if_neg c7] at H
 have c7b0 : decide (a1 ≤ 131072) = false := decide_eq_false c7
 clear c7
 obtain rfl := Option.some.inj H
 rotate_left
 rw [if_neg c6] at H
 have c6b0 : decide ((-131072) ≤ a1) = false := decide_eq_false c6
 clear c6
 obtain rfl := Option.some.inj H
 rotate_left
 rw [if_neg c5] at H
 have c5b0 : decide (a0 ≤ 2147483648) = false := decide_eq_false c5
 clear c5
 obtain rfl := Option.some.inj H
 rotate_left
 rw [if_neg c4] at H
 have c4b0 : decide ((-2147483648) ≤ a0) = false := decide_eq_false c4
 clear c4
 obtain rfl := Option.some.inj H
 rotate_left
 all_goals go_enter Try.func10, Try.ntmps10
 all_goals go_wp2
 all_goals (go_ret; exact bD)
/-! ### fall_Span: function 34 -/
def fall_Span.j0 : Nat → Int → Int → Int → Int → Bool → Option (Int × Int × Bool)
 | 0, _, _, _, _, _ => none
 | k + 1, x0, x1, x2, x3, x21 => if x21 = true then (some (0, 0, false)) else ((fall_fallen.f k (wrap64 (x0 - x3)) (wrap64 (x1 - x3)) x2).bind fun bt160 => ((fall_fallen.f k (wrap64 (x0 + x3)) (wrap64 (x1 + x3)) x2).bind fun bt162 => (if bt160.2 = true then (if bt162.2 = true then (some (bt160.1, wrap64 (bt162.1 + 2), true)) else (some (0, 0, false))) else (some (0, 0, false)))))
def fall_Span.f (k : Nat) (a0 : Int) (a1 : Int) (a2 : Int) (a3 : Int) : Option (Int × Int × Bool) := (fall_within.f a3 0 2048).bind fun t158 => (if t158 = true then ((fall_may.f a0 a1 a2).bind fun t159 => (fall_Span.j0 k a0 a1 a2 a3 (!t159))) else (fall_Span.j0 k a0 a1 a2 a3 true))
theorem fall_Span.mono_l : ∀ k, (∀ y0 y1 y2 y3 y4, LeO (fall_Span.j0 k y0 y1 y2 y3 y4) (fall_Span.j0 (k + 1) y0 y1 y2 y3 y4))
 | 0 => fun _ _ _ _ _ r h => by simp [fall_Span.j0] at h
 | k + 1 => by
  have ih0 := fall_Span.mono_l k
  ·intro y0 y1 y2 y3 y4
   unfold fall_Span.j0
   repeat' first
   | (with_reducible exact ih0 _ _ _ _ _)
   | (with_reducible exact fall_fallen.mono _ _ _ _)
   | (with_reducible exact LeO.refl _)
   | (with_reducible exact LeO.none _)
   | (with_reducible refine LeO.ite ?_ ?_)
   | (with_reducible refine LeO.bind ?_ (fun _ => ?_))
   | exact ih0 _ _ _ _ _
   | exact fall_fallen.mono _ _ _ _
   | exact LeO.none _
   | refine LeO.ite ?_ ?_
   | refine LeO.bind ?_ (fun _ => ?_)
theorem fall_Span.mono : ∀ a0 a1 a2 a3 k, LeO (fall_Span.f k a0 a1 a2 a3) (fall_Span.f (k + 1) a0 a1 a2 a3) := by
 intro a0 a1 a2 a3 k
 have ih0 := fall_Span.mono_l k
 unfold fall_Span.f
 repeat' first
   | (with_reducible exact ih0 _ _ _ _ _)
   | (with_reducible exact fall_fallen.mono _ _ _ _)
   | (with_reducible exact LeO.refl _)
   | (with_reducible exact LeO.none _)
   | (with_reducible refine LeO.ite ?_ ?_)
   | (with_reducible refine LeO.bind ?_ (fun _ => ?_))
   | exact ih0 _ _ _ _ _
   | exact fall_fallen.mono _ _ _ _
   | exact LeO.none _
   | refine LeO.ite ?_ ?_
   | refine LeO.bind ?_ (fun _ => ?_)
set_option maxHeartbeats 8000000 in
set_option maxRecDepth 100000 in
theorem fall_Span.calls (k : Nat) (a0 : Int) (a1 : Int) (a2 : Int) (a3 : Int) (r1 : Int) (r2 : Int) (r3 : Bool) (w : World) (h : fall_Span.f k a0 a1 a2 a3 = some (r1, r2, r3)) :
  Calls Try.prog 34 #[.int .i64 a0, .int .i64 a1, .int .i64 a2, .int .i64 a3] w fun e w' => e = .returned (.tuple #[.int .i64 r1, .int .i64 r2, .bool r3]) ∧ Below w.heap.size w w' := by
 have HB := bA (Below.refl w.heap.size w)
 have H : ((fall_within.f a3 0 2048).bind fun t158 => (if t158 = true then ((fall_may.f a0 a1 a2).bind fun t159 => (fall_Span.j0 k a0 a1 a2 a3 (!t159))) else (fall_Span.j0 k a0 a1 a2 a3 true))) = some (r1, r2, r3) := h
 clear h
 have HC5 := bA H
 clear H
 go_enter Try.func34, Try.ntmps34
 go_upto_region 1 with (fail)
 go_cut [21] (fun v21 wc => ∃ (kq : Nat) (x21_4 : Bool), v21 = .bool x21_4 ∧ Aside0 (fall_Span.j0 kq a0 a1 a2 a3 x21_4 = some (r1, r2, r3)) ∧ Aside0 (kq ≤ k) ∧ Aside0 (Below w.heap.size w wc))
 case first =>
  have H := HC5.out
  clear HC5
  replace H := Option.bind_eq_some_iff.mp H
  obtain ⟨t158, A60, H⟩ := H
  replace H : (if t158 = true then ((fall_may.f a0 a1 a2).bind fun t159 => (fall_Span.j0 k a0 a1 a2 a3 (!t159))) else (fall_Span.j0 k a0 a1 a2 a3 true)) = some (r1, r2, r3) := H
  have A6 := bA A60
  clear A60
  by_cases c7 : t158 = true
  subst c7
  rw [if_pos rfl] at H
  replace H := Option.bind_eq_some_iff.mp H
  obtain ⟨t159, A80, H⟩ := H
  replace H : (fall_Span.j0 k a0 a1 a2 a3 (!t159)) = some (r1, r2, r3) := H
  have A8 := bA A80
  clear A80
  have H' := bA H
  clear H
  rotate_left
  replace c7 := Bool.eq_false_iff.mpr c7
  subst c7
  rw [if_neg (show ¬ (false = true) by decide)] at H
  have H' := bA H
  clear H
  rotate_left
  all_goals go_wp2_with (first | ((first | ((with_reducible refine gate_callee (f := 32) rfl ?_); refine bC (some 13) Try.func32 #[.int .i64 a3, .int .i64 0, .int .i64 2048] ?_) | go_at_call 32); (with_reducible refine (fall_within.calls a3 0 2048 true _ A6.out).mono ?_); rintro e w' ⟨rfl, ⟨nd, rfl⟩⟩; (first | refine ⟨_, rfl, ?_⟩ | skip)) | (go_at_call 30; (with_reducible refine (fall_may.calls a0 a1 a2 t159 _ A8.out).mono ?_); rintro e w' ⟨rfl, ⟨nd, rfl⟩⟩) | ((first | ((with_reducible refine gate_callee (f := 32) rfl ?_); refine bC (some 13) Try.func32 #[.int .i64 a3, .int .i64 0, .int .i64 2048] ?_) | go_at_call 32); (with_reducible refine (fall_within.calls a3 0 2048 false _ A6.out).mono ?_); rintro e w' ⟨rfl, ⟨nd, rfl⟩⟩; (first | refine ⟨_, rfl, ?_⟩ | skip)))
  ·go_meet
   case rel => exact ⟨_, (!t159), (by first | rfl | (simp; done) | (simp [*]; done)), H', ⟨by first | omega | exact Nat.le_refl _⟩, ⟨bX⟩⟩
  ·go_meet
   case rel => exact ⟨_, (true), (by first | rfl | (simp; done) | (simp [*]; done)), H', ⟨by first | omega | exact Nat.le_refl _⟩, ⟨bX⟩⟩
 case rest =>
  clear HC5
  try clear p2
  try clear c3
  try clear c7
  obtain ⟨kq, x21_4, rfl, HA, HJ4, HB⟩ := hcut
  cases kq with
  | zero => exact absurd HA.out (by simp [fall_Span.j0])
  | succ kj4 =>
   have H := HA.out
   clear HA
   simp only [fall_Span.j0] at H
   by_cases c9 : x21_4 = true
   subst c9
   rw [if_pos rfl] at H
   simp only [Option.some.injEq, Prod.mk.injEq] at H
   obtain ⟨rfl, rfl, rfl⟩ := H
   rotate_left
   replace c9 := Bool.eq_false_iff.mpr c9
   subst c9
   rw [if_neg (show ¬ (false = true) by decide)] at H
   replace H := Option.bind_eq_some_iff.mp H
   obtain ⟨⟨t160, t161⟩, A100, H⟩ := H
   replace H : ((fall_fallen.f kj4 (wrap64 (a0 + a3)) (wrap64 (a1 + a3)) a2).bind fun bt162 => (if t161 = true then (if bt162.2 = true then (some (t160, wrap64 (bt162.1 + 2), true)) else (some (0, 0, false))) else (some (0, 0, false)))) = some (r1, r2, r3) := H
   have A10 := bA A100
   clear A100
   replace H := Option.bind_eq_some_iff.mp H
   obtain ⟨⟨t162, t163⟩, A110, H⟩ := H
   replace H : (if t161 = true then (if t163 = true then (some (t160, wrap64 (t162 + 2), true)) else (some (0, 0, false))) else (some (0, 0, false))) = some (r1, r2, r3) := H
   have A11 := bA A110
   clear A110
   by_cases c12 : t161 = true
   subst c12
   rw [if_pos rfl] at H
   by_cases c13 : t163 = true
   subst c13
   rw [if_pos rfl] at H
   simp only [Option.some.injEq, Prod.mk.injEq] at H
   obtain ⟨rfl, rfl, rfl⟩ := H
   rotate_left
   replace c13 := Bool.eq_false_iff.mpr c13
   subst c13
   rw [if_neg (show ¬ (false = true) by decide)] at H
   simp only [Option.some.injEq, Prod.mk.injEq] at H
   obtain ⟨rfl, rfl, rfl⟩ := H
   rotate_left
   replace c12 := Bool.eq_false_iff.mpr c12
   subst c12
   rw [if_neg (show ¬ (false = true) by decide)] at H
   simp only [Option.some.injEq, Prod.mk.injEq] at H
   obtain ⟨rfl, rfl, rfl⟩ := H
   rotate_left
   all_goals go_wp2_with (first | ((first | ((with_reducible refine gate_callee (f := 31) rfl ?_); refine bC (some 30) Try.func31 #[.int .i64 (wrap64 (a0 - a3)), .int .i64 (wrap64 (a1 - a3)), .int .i64 a2] ?_) | go_at_call 31); (with_reducible refine (fall_fallen.calls kj4 (wrap64 (a0 - a3)) (wrap64 (a1 - a3)) a2 t160 true _ A10.out).mono ?_); rintro e wz0 ⟨rfl, hb⟩; (first | refine ⟨_, rfl, ?_⟩ | skip); have n0_ := bA (bS hb); clear HB; have HB := n0_; clear n0_; (try clear hb); (try clear hb2); (try clear hk); (try clear hi)) | ((first | ((with_reducible refine gate_callee (f := 31) rfl ?_); refine bC (some 41) Try.func31 #[.int .i64 (wrap64 (a0 + a3)), .int .i64 (wrap64 (a1 + a3)), .int .i64 a2] ?_) | go_at_call 31); (with_reducible refine (fall_fallen.calls kj4 (wrap64 (a0 + a3)) (wrap64 (a1 + a3)) a2 t162 true _ A11.out).mono ?_); rintro e wz1 ⟨rfl, hb⟩; (first | refine ⟨_, rfl, ?_⟩ | skip); have n0_ := bA (bS hb); clear HB; have HB := n0_; clear n0_; (try clear hb); (try clear hb2); (try clear hk); (try clear hi)) | ((first | ((with_reducible refine gate_callee (f := 31) rfl ?_); refine bC (some 41) Try.func31 #[.int .i64 (wrap64 (a0 + a3)), .int .i64 (wrap64 (a1 + a3)), .int .i64 a2] ?_) | go_at_call 31); (with_reducible refine (fall_fallen.calls kj4 (wrap64 (a0 + a3)) (wrap64 (a1 + a3)) a2 t162 false _ A11.out).mono ?_); rintro e wz1 ⟨rfl, hb⟩; (first | refine ⟨_, rfl, ?_⟩ | skip); have n0_ := bA (bS hb); clear HB; have HB := n0_; clear n0_; (try clear hb); (try clear hb2); (try clear hk); (try clear hi)) | ((first | ((with_reducible refine gate_callee (f := 31) rfl ?_); refine bC (some 30) Try.func31 #[.int .i64 (wrap64 (a0 - a3)), .int .i64 (wrap64 (a1 - a3)), .int .i64 a2] ?_) | go_at_call 31); (with_reducible refine (fall_fallen.calls kj4 (wrap64 (a0 - a3)) (wrap64 (a1 - a3)) a2 t160 false _ A10.out).mono ?_); rintro e wz0 ⟨rfl, hb⟩; (first | refine ⟨_, rfl, ?_⟩ | skip); have n0_ := bA (bS hb); clear HB; have HB := n0_; clear n0_; (try clear hb); (try clear hb2); (try clear hk); (try clear hi)) | ((first | ((with_reducible refine gate_callee (f := 31) rfl ?_); refine bC (some 41) Try.func31 #[.int .i64 (wrap64 (a0 + a3)), .int .i64 (wrap64 (a1 + a3)), .int .i64 a2] ?_) | go_at_call 31); (with_reducible refine (fall_fallen.calls kj4 (wrap64 (a0 + a3)) (wrap64 (a1 + a3)) a2 t162 t163 _ A11.out).mono ?_); rintro e wz1 ⟨rfl, hb⟩; (first | refine ⟨_, rfl, ?_⟩ | skip); have n0_ := bA (bS hb); clear HB; have HB := n0_; clear n0_; (try clear hb); (try clear hb2); (try clear hk); (try clear hi)))
   all_goals (go_ret3; exact bF)
end Go.Proofs.Ytlifeghjcgbfnaa.G
