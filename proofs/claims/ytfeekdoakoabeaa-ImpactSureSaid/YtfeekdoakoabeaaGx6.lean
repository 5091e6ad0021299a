-- Written by a program of this session out of the translation; Lean checks it.
import Derived.Test.YtfeekdoakoabeaaGx0
namespace Go.Proofs.Ytfeekdoakoabeaa.G
open Go.RowKit Go.Proofs.YtfeekdoakoabeaaW.PrintWords Go.Proofs.YtfeekdoakoabeaaW.PrintLast Go.Proofs.YtfeekdoakoabeaaW.PrintMore
attribute [local go_sem] max2_int min2_int max_two min_two max_three min_three max_four min_four   -- for this text's walks alone
set_option linter.unusedVariables false
set_option linter.unusedSimpArgs false

/-! ### impact_within: function 39 -/
def impact_within.l0 : Nat → Int → List Int → Int → Int → Option (Bool)
 | 0, _, _, _, _ => none
 | k + 1, x0, x7, x8, x9 => if x9 < x8 then (if 0 ≤ x9 then (if x9 < (x7.length : Int) then (if (rd x7 x9) < (wrap64 (-x0)) then (some false) else (if (rd x7 x9) > x0 then (some false) else (impact_within.l0 k x0 x7 x8 (wrap64 (x9 + 1))))) else (none)) else (none)) else (some true)
def impact_within.f (k : Nat) (a0 : Int) (l1 : List Int) : Option (Bool) := impact_within.l0 k a0 l1 (l1.length : Int) 0
theorem impact_within.mono_l : ∀ k, (∀ y0 y1 y2 y3, LeO (impact_within.l0 k y0 y1 y2 y3) (impact_within.l0 (k + 1) y0 y1 y2 y3))
 | 0 => fun _ _ _ _ r h => by simp [impact_within.l0] at h
 | k + 1 => by
  have ih0 := impact_within.mono_l k
  ·intro y0 y1 y2 y3
   unfold impact_within.l0
   exact bMo
theorem impact_within.mono : ∀ a0 a1 k, LeO (impact_within.f k a0 a1) (impact_within.f (k + 1) a0 a1) := by
 intro a0 a1 k
 have ih0 := impact_within.mono_l k
 unfold impact_within.f
 exact bMo
set_option maxHeartbeats 8000000 in
set_option maxRecDepth 100000 in
theorem impact_within.calls (k : Nat) (a0 : Int) (A1 : Option Addr) (c1 : Nat) (l1 : List Int) (r : Bool) (w : World) (hr1 : Kd.C (Kd.int .i64) w A1 l1.length l1) (hc1 : l1.length ≤ c1) (h : impact_within.f k a0 l1 = some r) :
  Calls Try.prog 39 #[.int .i64 a0, .slice A1 l1.length c1] w fun e w' => e = .returned (.bool r) ∧ Drawn0 w w' := by
 have HR1 := bA hr1
 have HC1 := bA hc1
 clear hr1 hc1
 have H : (impact_within.l0 k a0 l1 (l1.length : Int) 0) = some r := h
 clear h
 have H' := bA H
 clear H
 go_enter Try.func39, Try.ntmps39
 go_wp2
 go_loopg [9] k (fun kq v9 w' => ∃ (x9_1 : Int), v9 = .int .i64 x9_1 ∧ Aside0 (impact_within.l0 kq a0 l1 (l1.length : Int) x9_1 = some r) ∧ Aside0 (kq ≤ k) ∧ Drawn0 w w')
 case atStart => exact ⟨(0), bs, H', ⟨Nat.le_refl _⟩, by repeat (first | exact Drawn0.refl _ | apply Drawn0.step)⟩
 clear H'
 try clear c1
 try clear p2
 obtain ⟨x9_1, rfl, HA, HK1, ⟨m1, rfl⟩⟩ := hrel
 cases gk with
 | zero => exact absurd HA.out (by simp [impact_within.l0])
 | succ k1 =>
  have H := HA.out
  clear HA
  simp only [impact_within.l0] at H
  by_cases c3 : x9_1 < (l1.length : Int)
  rw [if_pos c3] at H
  have c3b0 : decide (x9_1 < (l1.length : Int)) = true := decide_eq_true c3
  clear c3
  by_cases c4 : 0 ≤ x9_1
  rw [if_pos c4] at H
  have c4b0 : decide (0 ≤ x9_1) = true := decide_eq_true c4
  clear c4
  by_cases c5 : x9_1 < (l1.length : Int)
  rw [if_pos c5] at H
  have c5b0 : decide (x9_1 < (l1.length : Int)) = true := decide_eq_true c5
  clear c5
  by_cases c6 : (rd l1 x9_1) < (wrap64 (-a0))
  rw [if_pos c6] at H
  have c6b0 : decide ((rd l1 x9_1) < (wrap64 (-a0))) = true := decide_eq_true c6
  clear c6
  obtain rfl := Option.some.inj H
  have p146 : 0 ≤ (x9_1 : Int) := bo
  have q146 : x9_1 < (l1.length : Int) := bo
  obtain ⟨ad146, e146, hx146_0⟩ := Kd.at_int HR1.out x9_1 p146 q146
  cases e146
  replace p146 := eq_true p146
  replace q146 := eq_true q146
  rotate_left
  rw [if_neg c6] at H
  have c6b0 : decide ((rd l1 x9_1) < (wrap64 (-a0))) = false := decide_eq_false c6
  clear c6
  by_cases c7 : (rd l1 x9_1) > a0
  rw [if_pos c7] at H
  have c7b0 : decide (a0 < (rd l1 x9_1)) = true := decide_eq_true c7
  clear c7
  obtain rfl := Option.some.inj H
  have p146 : 0 ≤ (x9_1 : Int) := bo
  have q146 : x9_1 < (l1.length : Int) := bo
  obtain ⟨ad146, e146, hx146_0⟩ := Kd.at_int HR1.out x9_1 p146 q146
  cases e146
  replace p146 := eq_true p146
  replace q146 := eq_true q146
  rotate_left
  rw [if_neg c7] at H
  have c7b0 : decide (a0 < (rd l1 x9_1)) = false := decide_eq_false c7
  clear c7
  have H' := bA H
  clear H
  have p146 : 0 ≤ (x9_1 : Int) := bo
  have q146 : x9_1 < (l1.length : Int) := bo
  obtain ⟨ad146, e146, hx146_0⟩ := Kd.at_int HR1.out x9_1 p146 q146
  cases e146
  replace p146 := eq_true p146
  replace q146 := eq_true q146
  rotate_left
  rw [if_neg c5] at H
  exact absurd H (by simp)
  rw [if_neg c4] at H
  exact absurd H (by simp)
  rw [if_neg c3] at H
  have c3b0 : decide (x9_1 < (l1.length : Int)) = false := decide_eq_false c3
  clear c3
  obtain rfl := Option.some.inj H
  rotate_left
  all_goals go_wp2
  ·go_ret
   exact bD
  ·go_ret
   exact bD
  ·go_roundg k1
   case measure => have := HK1.out; omega
   case rel => exact ⟨(wrap64 (x9_1 + 1)), bs, H', ⟨by have := HK1.out; omega⟩, by repeat (first | exact Drawn0.refl _ | apply Drawn0.step)⟩
  go_ret
  exact bD
/-! ### impact_may: function 19 -/
def impact_may.f (k : Nat) (s0_0 : Int) (s0_1 : Int) (s0_2 : Int) (s0_3 : Int) (s0_4 : Int) (s0_5 : Int) (s0_6 : Int) (s0_7 : Int) : Option (Bool) := (impact_within.f k 2147483648 (([s0_2, s0_3] : List Int))).bind fun t150 => (if t150 = true then ((impact_within.f k 131072 (([s0_5, s0_6] : List Int))).bind fun t154 => (some t154)) else (some false))
theorem impact_may.mono : ∀ a0 a1 a2 a3 a4 a5 a6 a7 k, LeO (impact_may.f k a0 a1 a2 a3 a4 a5 a6 a7) (impact_may.f (k + 1) a0 a1 a2 a3 a4 a5 a6 a7) := by
 intro a0 a1 a2 a3 a4 a5 a6 a7 k
 unfold impact_may.f
 have m0_ := @impact_within.mono
 exact bMo
def impact_may.T1 : Bool × List (List Nat × List Nat) := (true, [([], []), ([0], [0]), ([1], [1]), ([2], [2]), ([], []), ([4], [4]), ([5], [5]), ([6], [6]), ([3, 7], [3, 7]), ([8], [8]), ([9, 9], [9]), ([10], [10]), ([11, 10], [10, 11]), ([12, 10], [10, 12]), ([13, 10], [10, 13]), ([10], [10]), ([15, 10], [10, 15]), ([16, 10], [10, 16]), ([17, 10], [10, 17]), ([14, 18, 10], [10, 14, 18]), ([19, 10, 10], [10, 19]), ([10, 20], [10, 20]), ([21, 20, 0, 1, 2, 3, 4, 5, 6, 7, 8, 9, 10, 11, 12, 13, 14, 15, 16, 17, 18, 19, 20, 21], [21])])
def impact_may.B1 : List Nat := [0, 1, 3, 7, 0, 16, 48, 112, 255, 511, 1023, 2047, 4095, 8191, 16383, 2047, 34815, 100351, 231423, 524287, 1048575, 2097151, 4194303]
theorem impact_may.tab1 : rtab .any (opsOf Try.f19 1) = impact_may.T1 := by kernel_rfl
theorem impact_may.bits1 : waitsOk impact_may.T1.2 impact_may.B1 = true := by kernel_rfl
set_option maxHeartbeats 8000000 in
set_option maxRecDepth 100000 in
theorem impact_may.calls (k : Nat) (g : Nat) (s0_0 : Int) (s0_1 : Int) (s0_2 : Int) (s0_3 : Int) (s0_4 : Int) (s0_5 : Int) (s0_6 : Int) (s0_7 : Int) (r : Bool) (w : World) (hbx : w.heap[g]? = some (.cells #[.int .i64 s0_0, .int .i64 s0_1, .int .i64 s0_2, .int .i64 s0_3, .int .i64 s0_4, .int .i64 s0_5, .int .i64 s0_6, .int .i64 s0_7] 23 (0, 0))) (h : impact_may.f k s0_0 s0_1 s0_2 s0_3 s0_4 s0_5 s0_6 s0_7 = some r) :
  Calls Try.prog 19 #[.pointer (some ⟨g, 0, none⟩)] w fun e w' => e = .returned (.bool r) ∧ Below w.heap.size w w' := by
 have BK0 := bA hbx
 clear hbx
 have HB := bA (Below.refl w.heap.size w)
 have H : ((impact_within.f k 2147483648 (([s0_2, s0_3] : List Int))).bind fun t150 => (if t150 = true then ((impact_within.f k 131072 (([s0_5, s0_6] : List Int))).bind fun t154 => (some t154)) else (some false))) = some r := h
 clear h
 obtain ⟨y147, hy147⟩ : ∃ y_ : List Int, y_ = (([s0_2, s0_3] : List Int)) := ⟨_, rfl⟩
 replace H : ((impact_within.f k 2147483648 y147).bind fun t150 => (if t150 = true then ((impact_within.f k 131072 (([s0_5, s0_6] : List Int))).bind fun t154 => (some t154)) else (some false))) = some r := by first | (rw [hy147]; with_reducible exact H) | (have H2_ := (Option.bind_some _ _).symm.trans H; rw [hy147]; with_reducible exact H2_) | (have H2_ := (Option.bind_some _ _).symm.trans H; with_reducible exact H2_) | with_reducible exact H | (rw [hy147]; exact H) | exact H
 have Ny147 := bA hy147
 clear hy147
 replace H := Option.bind_eq_some_iff.mp H
 obtain ⟨t150, A20, H⟩ := H
 have A2 := bA A20
 clear A20
 by_cases c3 : t150 = true
 ·subst c3
  rw [if_pos rfl] at H
  obtain ⟨y151, hy151⟩ : ∃ y_ : List Int, y_ = (([s0_5, s0_6] : List Int)) := ⟨_, rfl⟩
  replace H : ((impact_within.f k 131072 y151).bind fun t154 => (some t154)) = some r := by first | (rw [hy151]; with_reducible exact H) | (have H2_ := (Option.bind_some _ _).symm.trans H; rw [hy151]; with_reducible exact H2_) | (have H2_ := (Option.bind_some _ _).symm.trans H; with_reducible exact H2_) | with_reducible exact H | (rw [hy151]; exact H) | exact H
  have Ny151 := bA hy151
  clear hy151
  replace H := Option.bind_eq_some_iff.mp H
  obtain ⟨t154, A40, H⟩ := H
  have A4 := bA A40
  clear A40
  obtain rfl := Option.some.inj H
  go_enter Try.func19, Try.ntmps19
  try go_wp2
  replace BK0 := bA (blk_drew BK0.out)
  replace HB := bA (below_drew1 HB.out)
  refine start_ (n := 23) (S := fun w' => w'.cell? ⟨g, 0, none⟩ = some (.int .i64 s0_0) ∧ w'.cell? ⟨g, 1, none⟩ = some (.int .i64 s0_1) ∧ w'.cell? ⟨g, 2, none⟩ = some (.int .i64 s0_2) ∧ w'.cell? ⟨g, 3, none⟩ = some (.int .i64 s0_3) ∧ w'.cell? ⟨g, 4, none⟩ = some (.int .i64 s0_4) ∧ w'.cell? ⟨g, 5, none⟩ = some (.int .i64 s0_5) ∧ w'.cell? ⟨g, 6, none⟩ = some (.int .i64 s0_6) ∧ w'.cell? ⟨g, 7, none⟩ = some (.int .i64 s0_7)) (ds := []) #[false,false,false,false,false,false,false,false,false,false,false,false,false,false,false,false,false,false,false,false,false,false,false] (by kernel_rfl) rfl rfl ⟨bq BK0 0, bq BK0 1, bq BK0 2, bq BK0 3, bq BK0 4, bq BK0 5, bq BK0 6, bq BK0 7⟩ (fun hHeld => ?_); refine with_tabW impact_may.tab1 impact_may.bits1 (fun HT_ HW_ => ?_)
  generalize w.drew = w5 at BK0 HB hHeld ⊢
  refine bU (i := 0) (N := some 3) ?_
  refine bU (i := 1) (N := some 4) ?_
  refine bU (i := 2) (N := some 5) ?_
  refine bU (i := 4) (N := some 7) ?_
  refine bU (i := 5) (N := some 8) ?_
  refine bU (i := 6) (N := some 9) ?_
  refine bW (i := 3) (N := some 6) hHeld ?_
  refine bW (i := 7) (N := some 10) hHeld ?_
  refine one_ (i := 8) (N := some 11) #[true,true,true,true,true,true,true,true,true,false,false,false,false,false,false,false,false,false,false,false,false,false,false] rfl rfl (one_of HT_.out (by kernel_rfl)) (by decide) (fun K hK => ?_)
  refine Kd.R_lit_step (Kd.int .i64) _ 2 ?hg (N := 11) ?hd (xs := ([s0_2, s0_3] : List Int)) (inner := [.int .i64 s0_2, .int .i64 s0_3]) (ok := fun _ => True) (okp := fun _ => True) ?hr ?hp (fun _ hk => hk) trivial (Below.refl _ _) (Nat.le_refl _) (by simp) ?_; (case hd => rfl); (case hg => rfl); (case hr => first | (go_simp; done) | (go_simp; rfl)); (case hp => exact (Reps.one (show Kd.M (Kd.int .i64) _ _ _ s0_2 [.int .i64 s0_2] from rfl) (Reps.one (show Kd.M (Kd.int .i64) _ _ _ s0_3 [.int .i64 s0_3] from rfl) (Reps.none _ _))))
  intro v148 w6 ho7 hb hg_ hnew_
  clear hg_ hnew_
  (first | rw [← Ny147.out] at ho7 | (simp only [Int.reduceToNat] at ho7; rw [← Ny147.out] at ho7))
  have HO149 := bA (Kd.R_lower ho7 bY)
  replace BK0 := bA (blk_below (g := g) (o := .cells #[.int .i64 s0_0, .int .i64 s0_1, .int .i64 s0_2, .int .i64 s0_3, .int .i64 s0_4, .int .i64 s0_5, .int .i64 s0_6, .int .i64 s0_7] 23 (0, 0)) (bP BK0) hb)
  replace HB := bA (bS hb)
  clear hb ho7
  obtain ⟨Ao8, co8, eo8⟩ := Kd.R_slice HO149.out
  (first | subst eo8 | (injection eo8 with f1_ f2_ f3_; have f4_ := f1_.symm; have f5_ := f3_.symm; clear f1_ f2_ f3_; subst f4_; subst f5_))
  refine hK.out _ _ ⟨bq BK0 0, bq BK0 1, bq BK0 2, bq BK0 3, bq BK0 4, bq BK0 5, bq BK0 6, bq BK0 7⟩ (fun hHeld => ?_)
  clear hK K
  refine bI 11 ?_
  refine one_ (i := 9) (N := some 12) #[true,true,true,true,true,true,true,true,true,true,false,false,false,false,false,false,false,false,false,false,false,false,false] rfl rfl (one_of HT_.out (by kernel_rfl)) (by decide) (fun K hK => ?_)
  refine goes_ Try.func39 (by kernel_rfl) rfl #[.int .i64 2147483648, .slice Ao8 y147.length co8] (by rfl) rfl rfl (by (try simp only [List.map_toArray, List.map_cons, List.map_nil]); first | done | rfl | (simp only [List.length_drop, List.length_take]; rfl)) ?_
  with_reducible refine (impact_within.calls k 2147483648 _ _ y147 true _ ?side1 ?side2 A2.out).mono ?_
  (case side1 => repeat (first | exact (Kd.R_reads' HO149.out).2.2 | (with_reducible refine Kd.C_alloc ?_ _) | (with_reducible refine Kd.C_drewN ?_ _) | (with_reducible refine Kd.C_drew ?_)))
  (case side2 => exact (Kd.R_reads' HO149.out).2.1)
  rintro e w' ⟨rfl, ⟨nd, rfl⟩⟩
  refine ⟨_, rfl, ?_⟩
  refine hK.out _ _ ⟨bq BK0 0, bq BK0 1, bq BK0 2, bq BK0 3, bq BK0 4, bq BK0 5, bq BK0 6, bq BK0 7⟩ (fun hHeld => ?_)
  clear hK K
  refine bI 12 ?_
  refine bU (i := 10) (N := some 13) ?_
  refine bU (i := 11) (N := some 14) ?_
  refine bU (i := 12) (N := some 15) ?_
  refine bU (i := 13) (N := some 16) ?_
  refine bU (i := 15) (N := some 18) ?_
  refine bU (i := 16) (N := some 19) ?_
  refine bU (i := 17) (N := some 20) ?_
  refine bW (i := 14) (N := some 17) hHeld ?_
  refine bW (i := 18) (N := some 21) hHeld ?_
  refine one_ (i := 19) (N := some 22) #[true,true,true,true,true,true,true,true,true,true,true,true,true,true,true,true,true,true,true,true,false,false,false] rfl rfl (one_of HT_.out (by kernel_rfl)) (by decide) (fun K hK => ?_)
  refine Kd.R_lit_step (Kd.int .i64) _ 2 ?hg (N := 22) ?hd (xs := ([s0_5, s0_6] : List Int)) (inner := [.int .i64 s0_5, .int .i64 s0_6]) (ok := fun _ => True) (okp := fun _ => True) ?hr ?hp (fun _ hk => hk) trivial (Below.refl _ _) (Nat.le_refl _) (by simp) ?_; (case hd => rfl); (case hg => rfl); (case hr => first | (go_simp; done) | (go_simp; rfl)); (case hp => exact (Reps.one (show Kd.M (Kd.int .i64) _ _ _ s0_5 [.int .i64 s0_5] from rfl) (Reps.one (show Kd.M (Kd.int .i64) _ _ _ s0_6 [.int .i64 s0_6] from rfl) (Reps.none _ _))))
  intro v152 w9 ho10 hb hg_ hnew_
  clear hg_ hnew_
  (first | rw [← Ny151.out] at ho10 | (simp only [Int.reduceToNat] at ho10; rw [← Ny151.out] at ho10))
  have HO153 := bA (Kd.R_lower (Kd.R_new' ho10 (Kd.R_lt (bRr HO149))) bY)
  replace HO149 := bA (Kd.R_elder' (bRr HO149) (Kd.R_base ho10) hb)
  replace BK0 := bA (blk_below (g := g) (o := .cells #[.int .i64 s0_0, .int .i64 s0_1, .int .i64 s0_2, .int .i64 s0_3, .int .i64 s0_4, .int .i64 s0_5, .int .i64 s0_6, .int .i64 s0_7] 23 (0, 0)) (bP BK0) hb)
  replace HB := bA (bS hb)
  clear hb ho10
  obtain ⟨Ao11, co11, eo11⟩ := Kd.R_slice HO153.out
  (first | subst eo11 | (injection eo11 with f1_ f2_ f3_; have f4_ := f1_.symm; have f5_ := f3_.symm; clear f1_ f2_ f3_; subst f4_; subst f5_))
  refine hK.out _ _ ⟨bq BK0 0, bq BK0 1, bq BK0 2, bq BK0 3, bq BK0 4, bq BK0 5, bq BK0 6, bq BK0 7⟩ (fun hHeld => ?_)
  clear hK K
  refine bI 22 ?_
  refine one_ (i := 20) (N := some 23) #[true,true,true,true,true,true,true,true,true,true,true,true,true,true,true,true,true,true,true,true,true,false,false] rfl rfl (one_of HT_.out (by kernel_rfl)) (by decide) (fun K hK => ?_)
  refine goes_ Try.func39 (by kernel_rfl) rfl #[.int .i64 131072, .slice Ao11 y151.length co11] (by rfl) rfl rfl (by (try simp only [List.map_toArray, List.map_cons, List.map_nil]); first | done | rfl | (simp only [List.length_drop, List.length_take]; rfl)) ?_
  with_reducible refine (impact_within.calls k 131072 _ _ y151 t154 _ ?side1 ?side2 A4.out).mono ?_
  (case side1 => repeat (first | exact (Kd.R_reads' HO153.out).2.2 | (with_reducible refine Kd.C_alloc ?_ _) | (with_reducible refine Kd.C_drewN ?_ _) | (with_reducible refine Kd.C_drew ?_)))
  (case side2 => exact (Kd.R_reads' HO153.out).2.1)
  rintro e w' ⟨rfl, ⟨nd, rfl⟩⟩
  refine ⟨_, rfl, ?_⟩
  refine hK.out _ _ ⟨bq BK0 0, bq BK0 1, bq BK0 2, bq BK0 3, bq BK0 4, bq BK0 5, bq BK0 6, bq BK0 7⟩ (fun hHeld => ?_)
  clear hK K
  refine bI 23 ?_
  refine bU (i := 21) (N := some 24) ?_
  refine bU (i := 22) (N := some 2) ?_
  refine done_ (done_of HT_.out (by kernel_rfl)) ?_
  try go_wp2
  go_ret
  exact bF
 replace c3 := Bool.eq_false_iff.mpr c3
 subst c3
 rw [if_neg bn] at H
 obtain rfl := Option.some.inj H
 go_enter Try.func19, Try.ntmps19
 try go_wp2
 replace BK0 := bA (blk_drew BK0.out)
 replace HB := bA (below_drew1 HB.out)
 refine start_ (n := 23) (S := fun w' => w'.cell? ⟨g, 0, none⟩ = some (.int .i64 s0_0) ∧ w'.cell? ⟨g, 1, none⟩ = some (.int .i64 s0_1) ∧ w'.cell? ⟨g, 2, none⟩ = some (.int .i64 s0_2) ∧ w'.cell? ⟨g, 3, none⟩ = some (.int .i64 s0_3) ∧ w'.cell? ⟨g, 4, none⟩ = some (.int .i64 s0_4) ∧ w'.cell? ⟨g, 5, none⟩ = some (.int .i64 s0_5) ∧ w'.cell? ⟨g, 6, none⟩ = some (.int .i64 s0_6) ∧ w'.cell? ⟨g, 7, none⟩ = some (.int .i64 s0_7)) (ds := []) #[false,false,false,false,false,false,false,false,false,false,false,false,false,false,false,false,false,false,false,false,false,false,false] (by kernel_rfl) rfl rfl ⟨bq BK0 0, bq BK0 1, bq BK0 2, bq BK0 3, bq BK0 4, bq BK0 5, bq BK0 6, bq BK0 7⟩ (fun hHeld => ?_); refine with_tabW impact_may.tab1 impact_may.bits1 (fun HT_ HW_ => ?_)
 generalize w.drew = w12 at BK0 HB hHeld ⊢
 refine bU (i := 0) (N := some 3) ?_
 refine bU (i := 1) (N := some 4) ?_
 refine bU (i := 2) (N := some 5) ?_
 refine bU (i := 4) (N := some 7) ?_
 refine bU (i := 5) (N := some 8) ?_
 refine bU (i := 6) (N := some 9) ?_
 refine bW (i := 3) (N := some 6) hHeld ?_
 refine bW (i := 7) (N := some 10) hHeld ?_
 refine one_ (i := 8) (N := some 11) #[true,true,true,true,true,true,true,true,true,false,false,false,false,false,false,false,false,false,false,false,false,false,false] rfl rfl (one_of HT_.out (by kernel_rfl)) (by decide) (fun K hK => ?_)
 refine Kd.R_lit_step (Kd.int .i64) _ 2 ?hg (N := 11) ?hd (xs := ([s0_2, s0_3] : List Int)) (inner := [.int .i64 s0_2, .int .i64 s0_3]) (ok := fun _ => True) (okp := fun _ => True) ?hr ?hp (fun _ hk => hk) trivial (Below.refl _ _) (Nat.le_refl _) (by simp) ?_; (case hd => rfl); (case hg => rfl); (case hr => first | (go_simp; done) | (go_simp; rfl)); (case hp => exact (Reps.one (show Kd.M (Kd.int .i64) _ _ _ s0_2 [.int .i64 s0_2] from rfl) (Reps.one (show Kd.M (Kd.int .i64) _ _ _ s0_3 [.int .i64 s0_3] from rfl) (Reps.none _ _))))
 intro v148 w13 ho14 hb hg_ hnew_
 clear hg_ hnew_
 (first | rw [← Ny147.out] at ho14 | (simp only [Int.reduceToNat] at ho14; rw [← Ny147.out] at ho14))
 have HO149 := bA (Kd.R_lower ho14 bY)
 replace BK0 := bA (blk_below (g := g) (o := .cells #[.int .i64 s0_0, .int .i64 s0_1, .int .i64 s0_2, .int .i64 s0_3, .int .i64 s0_4, .int .i64 s0_5, .int .i64 s0_6, .int .i64 s0_7] 23 (0, 0)) (bP BK0) hb)
 replace HB := bA (bS hb)
 clear hb ho14
 obtain ⟨Ao15, co15, eo15⟩ := Kd.R_slice HO149.out
 (first | subst eo15 | (injection eo15 with f1_ f2_ f3_; have f4_ := f1_.symm; have f5_ := f3_.symm; clear f1_ f2_ f3_; subst f4_; subst f5_))
 refine hK.out _ _ ⟨bq BK0 0, bq BK0 1, bq BK0 2, bq BK0 3, bq BK0 4, bq BK0 5, bq BK0 6, bq BK0 7⟩ (fun hHeld => ?_)
 clear hK K
 refine bI 11 ?_
 refine one_ (i := 9) (N := some 12) #[true,true,true,true,true,true,true,true,true,true,false,false,false,false,false,false,false,false,false,false,false,false,false] rfl rfl (one_of HT_.out (by kernel_rfl)) (by decide) (fun K hK => ?_)
 refine goes_ Try.func39 (by kernel_rfl) rfl #[.int .i64 2147483648, .slice Ao15 y147.length co15] (by rfl) rfl rfl (by (try simp only [List.map_toArray, List.map_cons, List.map_nil]); first | done | rfl | (simp only [List.length_drop, List.length_take]; rfl)) ?_
 with_reducible refine (impact_within.calls k 2147483648 _ _ y147 false _ ?side1 ?side2 A2.out).mono ?_
 (case side1 => repeat (first | exact (Kd.R_reads' HO149.out).2.2 | (with_reducible refine Kd.C_alloc ?_ _) | (with_reducible refine Kd.C_drewN ?_ _) | (with_reducible refine Kd.C_drew ?_)))
 (case side2 => exact (Kd.R_reads' HO149.out).2.1)
 rintro e w' ⟨rfl, ⟨nd, rfl⟩⟩
 refine ⟨_, rfl, ?_⟩
 refine hK.out _ _ ⟨bq BK0 0, bq BK0 1, bq BK0 2, bq BK0 3, bq BK0 4, bq BK0 5, bq BK0 6, bq BK0 7⟩ (fun hHeld => ?_)
 clear hK K
 refine bI 12 ?_
 refine bU (i := 10) (N := some 13) ?_
 refine pure_ (i := 11) (N := some 14) (v := undef) (a' := ?_) #[true,true,true,true,true,true,true,true,true,true,true,true,false,false,false,false,false,false,false,false,false,false,false] rfl rfl (any_of HT_.out (by kernel_rfl)) (fun _ _ _ h => h) (Or.inr ⟨by rfl, rfl⟩) ?_ ?_
 rotate_left
 ·simp only [Act.put, List.setIfInBounds_toArray, List.set_cons_zero, List.set_cons_succ, i64_w, i32_w]
  rfl
 refine pure_ (i := 12) (N := some 15) (v := undef) (a' := ?_) #[true,true,true,true,true,true,true,true,true,true,true,true,true,false,false,false,false,false,false,false,false,false,false] rfl rfl (any_of HT_.out (by kernel_rfl)) (fun _ _ _ h => h) (Or.inr ⟨by rfl, rfl⟩) ?_ ?_
 rotate_left
 ·simp only [Act.put, List.setIfInBounds_toArray, List.set_cons_zero, List.set_cons_succ, i64_w, i32_w]
  rfl
 refine pure_ (i := 13) (N := some 16) (v := undef) (a' := ?_) #[true,true,true,true,true,true,true,true,true,true,true,true,true,true,false,false,false,false,false,false,false,false,false] rfl rfl (any_of HT_.out (by kernel_rfl)) (fun _ _ _ h => h) (Or.inr ⟨by rfl, rfl⟩) ?_ ?_
 rotate_left
 ·simp only [Act.put, List.setIfInBounds_toArray, List.set_cons_zero, List.set_cons_succ, i64_w, i32_w]
  rfl
 refine pure_ (i := 14) (N := some 17) (v := undef) (a' := ?_) #[true,true,true,true,true,true,true,true,true,true,true,true,true,true,true,false,false,false,false,false,false,false,false] rfl rfl (any_of HT_.out (by kernel_rfl)) (fun _ _ _ h => h) (Or.inr ⟨by rfl, rfl⟩) ?_ ?_
 rotate_left
 ·simp only [Act.put, List.setIfInBounds_toArray, List.set_cons_zero, List.set_cons_succ, i64_w, i32_w]
  rfl
 refine pure_ (i := 15) (N := some 18) (v := undef) (a' := ?_) #[true,true,true,true,true,true,true,true,true,true,true,true,true,true,true,true,false,false,false,false,false,false,false] rfl rfl (any_of HT_.out (by kernel_rfl)) (fun _ _ _ h => h) (Or.inr ⟨by rfl, rfl⟩) ?_ ?_
 rotate_left
 ·simp only [Act.put, List.setIfInBounds_toArray, List.set_cons_zero, List.set_cons_succ, i64_w, i32_w]
  rfl
 refine pure_ (i := 16) (N := some 19) (v := undef) (a' := ?_) #[true,true,true,true,true,true,true,true,true,true,true,true,true,true,true,true,true,false,false,false,false,false,false] rfl rfl (any_of HT_.out (by kernel_rfl)) (fun _ _ _ h => h) (Or.inr ⟨by rfl, rfl⟩) ?_ ?_
 rotate_left
 ·simp only [Act.put, List.setIfInBounds_toArray, List.set_cons_zero, List.set_cons_succ, i64_w, i32_w]
  rfl
 refine pure_ (i := 17) (N := some 20) (v := undef) (a' := ?_) #[true,true,true,true,true,true,true,true,true,true,true,true,true,true,true,true,true,true,false,false,false,false,false] rfl rfl (any_of HT_.out (by kernel_rfl)) (fun _ _ _ h => h) (Or.inr ⟨by rfl, rfl⟩) ?_ ?_
 rotate_left
 ·simp only [Act.put, List.setIfInBounds_toArray, List.set_cons_zero, List.set_cons_succ, i64_w, i32_w]
  rfl
 refine pure_ (i := 18) (N := some 21) (v := undef) (a' := ?_) #[true,true,true,true,true,true,true,true,true,true,true,true,true,true,true,true,true,true,true,false,false,false,false] rfl rfl (any_of HT_.out (by kernel_rfl)) (fun _ _ _ h => h) (Or.inr ⟨by rfl, rfl⟩) ?_ ?_
 rotate_left
 ·simp only [Act.put, List.setIfInBounds_toArray, List.set_cons_zero, List.set_cons_succ, i64_w, i32_w]
  rfl
 refine pure_ (i := 19) (N := some 22) (v := undef) (a' := ?_) #[true,true,true,true,true,true,true,true,true,true,true,true,true,true,true,true,true,true,true,true,false,false,false] rfl rfl (any_of HT_.out (by kernel_rfl)) (fun _ _ _ h => h) (Or.inr ⟨by rfl, rfl⟩) ?_ ?_
 rotate_left
 ·simp only [Act.put, List.setIfInBounds_toArray, List.set_cons_zero, List.set_cons_succ, i64_w, i32_w]
  rfl
 refine pure_ (i := 20) (N := some 23) (v := undef) (a' := ?_) #[true,true,true,true,true,true,true,true,true,true,true,true,true,true,true,true,true,true,true,true,true,false,false] rfl rfl (any_of HT_.out (by kernel_rfl)) (fun _ _ _ h => h) (Or.inr ⟨by rfl, rfl⟩) ?_ ?_
 rotate_left
 ·simp only [Act.put, List.setIfInBounds_toArray, List.set_cons_zero, List.set_cons_succ, i64_w, i32_w]
  rfl
 refine bU (i := 21) (N := some 24) ?_
 refine bU (i := 22) (N := some 2) ?_
 refine done_ (done_of HT_.out (by kernel_rfl)) ?_
 try go_wp2
 go_ret
 exact bF
/-! ### impact_side: function 20 -/
def impact_side.f (a0 : Int) (a1 : Int) (a2 : Int) (a3 : Int) (a4 : Int) : Option (Int × Int) := some (wrap64 ((wrap64 (a0 - a2)) + (mn (wrap64 ((wrap64 (a1 - a2)) * a3)) (wrap64 ((wrap64 (a1 - a2)) * a4)))), wrap64 ((wrap64 (a0 + a2)) + (mx (wrap64 ((wrap64 (a1 + a2)) * a3)) (wrap64 ((wrap64 (a1 + a2)) * a4)))))
set_option maxHeartbeats 8000000 in
set_option maxRecDepth 100000 in
theorem impact_side.calls (a0 : Int) (a1 : Int) (a2 : Int) (a3 : Int) (a4 : Int) (r1 : Int) (r2 : Int) (w : World) (h : impact_side.f a0 a1 a2 a3 a4 = some (r1, r2)) :
  Calls Try.prog 20 #[.int .i64 a0, .int .i64 a1, .int .i64 a2, .int .i64 a3, .int .i64 a4] w fun e w' => e = .returned (.tuple #[.int .i64 r1, .int .i64 r2]) ∧ Below w.heap.size w w' := by
 have HB := bA (Below.refl w.heap.size w)
 have H : (some (wrap64 ((wrap64 (a0 - a2)) + (mn (wrap64 ((wrap64 (a1 - a2)) * a3)) (wrap64 ((wrap64 (a1 - a2)) * a4)))), wrap64 ((wrap64 (a0 + a2)) + (mx (wrap64 ((wrap64 (a1 + a2)) * a3)) (wrap64 ((wrap64 (a1 + a2)) * a4)))))) = some (r1, r2) := h
 clear h
 obtain ⟨ji6, hji6⟩ : ∃ j_ : Int, (mn (wrap64 ((wrap64 (a1 - a2)) * a3)) (wrap64 ((wrap64 (a1 - a2)) * a4))) = j_ := ⟨_, rfl⟩
 replace H : (some (wrap64 ((wrap64 (a0 - a2)) + (ji6)), wrap64 ((wrap64 (a0 + a2)) + (mx (wrap64 ((wrap64 (a1 + a2)) * a3)) (wrap64 ((wrap64 (a1 + a2)) * a4)))))) = some (r1, r2) := by first | (rw [hji6] at H; exact H) | (simp only [hji6] at H ⊢; exact H)
 have hji6_ : (if (wrap64 ((wrap64 (a1 - a2)) * a4)) < (wrap64 ((wrap64 (a1 - a2)) * a3)) then (wrap64 ((wrap64 (a1 - a2)) * a4)) else (wrap64 ((wrap64 (a1 - a2)) * a3))) = ji6 := hji6
 obtain ⟨ji7, hji7⟩ : ∃ j_ : Int, (mx (wrap64 ((wrap64 (a1 + a2)) * a3)) (wrap64 ((wrap64 (a1 + a2)) * a4))) = j_ := ⟨_, rfl⟩
 replace H : (some (wrap64 ((wrap64 (a0 - a2)) + (ji6)), wrap64 ((wrap64 (a0 + a2)) + (ji7)))) = some (r1, r2) := by first | (rw [hji7] at H; exact H) | (simp only [hji7] at H ⊢; exact H)
 have hji7_ : (if (wrap64 ((wrap64 (a1 + a2)) * a3)) < (wrap64 ((wrap64 (a1 + a2)) * a4)) then (wrap64 ((wrap64 (a1 + a2)) * a4)) else (wrap64 ((wrap64 (a1 + a2)) * a3))) = ji7 := hji7
 simp only [Option.some.injEq, Prod.mk.injEq] at H
 obtain ⟨rfl, rfl⟩ := H
 go_enter Try.func20, Try.ntmps20
 go_wp2
 go_ret2
 exact ⟨by first | rfl | (simp [errW_none, errW_some] <;> rfl) | (simp only [← hji6, ← hji7]; first | rfl | (simp [errW_none, errW_some] <;> rfl)) | (simp [*, errW_none, errW_some] <;> rfl), by repeat (first | (with_reducible first | exact HB.out | apply below_alloc | apply pw_below_drewN | apply below_drew1) | exact HB.out)⟩
/-! ### point_within: function 52 -/
def point_within.f (a0 : Int) : Option (Bool) := if a0 ≥ (-1099511627776) then (some (decide (a0 ≤ 1099511627776))) else (some false)
set_option maxHeartbeats 8000000 in
set_option maxRecDepth 100000 in
theorem point_within.calls (a0 : Int) (r : Bool) (w : World) (h : point_within.f a0 = some r) :
  Calls Try.prog 52 #[.int .i64 a0] w fun e w' => e = .returned (.bool r) ∧ Drawn0 w w' := by
 have H : (if a0 ≥ (-1099511627776) then (some (decide (a0 ≤ 1099511627776))) else (some false)) = some r := h
 clear h
 by_cases c2 : a0 ≥ (-1099511627776)
 rw [if_pos c2] at H
 have c2b0 : decide ((-1099511627776) ≤ a0) = true := decide_eq_true c2
 clear c2
 obtain rfl := Option.some.inj H
 rotate_left
 rw [if_neg c2] at H
 have c2b0 : decide ((-1099511627776) ≤ a0) = false := decide_eq_false c2
 clear c2
 obtain rfl := Option.some.inj H
 rotate_left
 all_goals go_enter Try.func52, Try.ntmps52
 all_goals go_wp2
 all_goals (go_ret; exact bD)
/-! ### point_Right: function 40 -/
def point_Right.f (a0_0 : Int) (a0_1 : Int) : Option (Bool) := (point_within.f a0_0).bind fun t156 => (if t156 = true then ((point_within.f a0_1).bind fun t157 => (some t157)) else (some false))
set_option maxHeartbeats 8000000 in
set_option maxRecDepth 100000 in
theorem point_Right.calls (a0_0 : Int) (a0_1 : Int) (r : Bool) (w : World) (h : point_Right.f a0_0 a0_1 = some r) :
  Calls Try.prog 40 #[.agg #[.int .i64 a0_0, .int .i64 a0_1]] w fun e w' => e = .returned (.bool r) ∧ Below w.heap.size w w' := by
 have hu28 := Try.underlying28
 have HB := bA (Below.refl w.heap.size w)
 have H : ((point_within.f a0_0).bind fun t156 => (if t156 = true then ((point_within.f a0_1).bind fun t157 => (some t157)) else (some false))) = some r := h
 clear h
 replace H := Option.bind_eq_some_iff.mp H
 obtain ⟨t156, A20, H⟩ := H
 have A2 := bA A20
 clear A20
 by_cases c3 : t156 = true
 subst c3
 rw [if_pos rfl] at H
 replace H := Option.bind_eq_some_iff.mp H
 obtain ⟨t157, A40, H⟩ := H
 have A4 := bA A40
 clear A40
 obtain rfl := Option.some.inj H
 rotate_left
 replace c3 := Bool.eq_false_iff.mpr c3
 subst c3
 rw [if_neg bn] at H
 obtain rfl := Option.some.inj H
 rotate_left
 all_goals go_enter Try.func40, Try.ntmps40
 all_goals go_wp2_with (first | ((with_reducible refine gate_dst (N := 1) rfl ?_); refine bE (N := 1) (cs := #[.int .i64 a0_0, .int .i64 a0_1]) (t := 28) ?_; intro gb155 hg wz0 hbox hb; have BK155 := bA (hbox); have GW155 := bA (bZ hg); have GE155 := bA (bZ hg); replace HB := bA (bS hb); clear hb hbox hg; obtain ⟨hz1, hz2, hz3, hz4⟩ := bc2 BK155) | ((first | ((with_reducible refine gate_callee (f := 52) rfl ?_); refine bC (some 5) Try.func52 #[.int .i64 a0_0] ?_) | go_at_call 52); (with_reducible refine (point_within.calls a0_0 true _ A2.out).mono ?_); rintro e w' ⟨rfl, ⟨nd, rfl⟩⟩; (first | refine ⟨_, rfl, ?_⟩ | skip)) | (go_at_call 52; (with_reducible refine (point_within.calls a0_1 t157 _ A4.out).mono ?_); rintro e w' ⟨rfl, ⟨nd, rfl⟩⟩) | ((first | ((with_reducible refine gate_callee (f := 52) rfl ?_); refine bC (some 5) Try.func52 #[.int .i64 a0_0] ?_) | go_at_call 52); (with_reducible refine (point_within.calls a0_0 false _ A2.out).mono ?_); rintro e w' ⟨rfl, ⟨nd, rfl⟩⟩; (first | refine ⟨_, rfl, ?_⟩ | skip)))
 all_goals (go_ret; exact bF)
/-! ### box_Right: function 21 -/
def box_Right.f (a0_0 : Int) (a0_1 : Int) (a0_2 : Int) (a0_3 : Int) : Option (Bool) := (point_Right.f a0_0 a0_1).bind fun t159 => (if t159 = true then ((point_Right.f a0_2 a0_3).bind fun t160 => (if t160 = true then (if a0_0 ≤ a0_2 then (some (decide (a0_1 ≤ a0_3))) else (some false)) else (some false))) else (some false))
set_option maxHeartbeats 8000000 in
set_option maxRecDepth 100000 in
theorem box_Right.calls (a0_0 : Int) (a0_1 : Int) (a0_2 : Int) (a0_3 : Int) (r : Bool) (w : World) (h : box_Right.f a0_0 a0_1 a0_2 a0_3 = some r) :
  Calls Try.prog 21 #[.agg #[.int .i64 a0_0, .int .i64 a0_1, .int .i64 a0_2, .int .i64 a0_3]] w fun e w' => e = .returned (.bool r) ∧ Below w.heap.size w w' := by
 have hu30 := Try.underlying30
 have hu28 := Try.underlying28
 have HB := bA (Below.refl w.heap.size w)
 have H : ((point_Right.f a0_0 a0_1).bind fun t159 => (if t159 = true then ((point_Right.f a0_2 a0_3).bind fun t160 => (if t160 = true then (if a0_0 ≤ a0_2 then (some (decide (a0_1 ≤ a0_3))) else (some false)) else (some false))) else (some false))) = some r := h
 clear h
 replace H := Option.bind_eq_some_iff.mp H
 obtain ⟨t159, A20, H⟩ := H
 have A2 := bA A20
 clear A20
 by_cases c3 : t159 = true
 subst c3
 rw [if_pos rfl] at H
 replace H := Option.bind_eq_some_iff.mp H
 obtain ⟨t160, A40, H⟩ := H
 have A4 := bA A40
 clear A40
 by_cases c5 : t160 = true
 subst c5
 rw [if_pos rfl] at H
 by_cases c6 : a0_0 ≤ a0_2
 rw [if_pos c6] at H
 have c6b0 : decide (a0_0 ≤ a0_2) = true := decide_eq_true c6
 clear c6
 obtain rfl := Option.some.inj H
 rotate_left
 rw [if_neg c6] at H
 have c6b0 : decide (a0_0 ≤ a0_2) = false := decide_eq_false c6
 clear c6
 obtain rfl := Option.some.inj H
 rotate_left
 replace c5 := Bool.eq_false_iff.mpr c5
 subst c5
 rw [if_neg bn] at H
 obtain rfl := Option.some.inj H
 rotate_left
 replace c3 := Bool.eq_false_iff.mpr c3
 subst c3
 rw [if_neg bn] at H
 obtain rfl := Option.some.inj H
 rotate_left
 all_goals go_enter Try.func21, Try.ntmps21
 all_goals go_wp2_with (first | ((with_reducible refine gate_dst (N := 1) rfl ?_); refine bE (N := 1) (cs := #[.int .i64 a0_0, .int .i64 a0_1, .int .i64 a0_2, .int .i64 a0_3]) (t := 30) ?_; intro gb158 hg wz0 hbox hb; have BK158 := bA (hbox); have GW158 := bA (bZ hg); have GE158 := bA (bZ hg); replace HB := bA (bS hb); clear hb hbox hg; obtain ⟨hz1, hz2, hz3, hz4, hz5, hz6, hz7, hz8⟩ := bc4 BK158) | ((first | ((with_reducible refine gate_callee (f := 40) rfl ?_); refine bC (some 5) Try.func40 #[.agg #[.int .i64 a0_0, .int .i64 a0_1]] ?_) | go_at_call 40); (with_reducible refine (point_Right.calls a0_0 a0_1 true _ A2.out).mono ?_); rintro e wz1 ⟨rfl, hb⟩; (first | refine ⟨_, rfl, ?_⟩ | skip); replace BK158 := bA (bB BK158 hb); replace HB := bA (bS hb); (try clear hb); obtain ⟨hz9, hz10, hz11, hz12, hz5, hz6, hz7, hz8⟩ := bc4 BK158) | (go_at_call 40; (with_reducible refine (point_Right.calls a0_2 a0_3 true _ A4.out).mono ?_); rintro e wz2 ⟨rfl, hb⟩; replace BK158 := bA (bB BK158 hb); replace HB := bA (bS hb); (try clear hb); obtain ⟨hz13, hz14, hz15, hz16, hz5, hz6, hz7, hz8⟩ := bc4 BK158) | (go_at_call 40; (with_reducible refine (point_Right.calls a0_2 a0_3 false _ A4.out).mono ?_); rintro e wz2 ⟨rfl, hb⟩; replace BK158 := bA (bB BK158 hb); replace HB := bA (bS hb); (try clear hb)) | ((first | ((with_reducible refine gate_callee (f := 40) rfl ?_); refine bC (some 5) Try.func40 #[.agg #[.int .i64 a0_0, .int .i64 a0_1]] ?_) | go_at_call 40); (with_reducible refine (point_Right.calls a0_0 a0_1 false _ A2.out).mono ?_); rintro e wz1 ⟨rfl, hb⟩; (first | refine ⟨_, rfl, ?_⟩ | skip); replace BK158 := bA (bB BK158 hb); replace HB := bA (bS hb); (try clear hb)))
 all_goals (go_ret; exact bF)
end Go.Proofs.Ytfeekdoakoabeaa.G
