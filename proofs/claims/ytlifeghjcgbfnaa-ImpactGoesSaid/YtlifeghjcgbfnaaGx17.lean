-- Written by a program of this session out of the translation; Lean checks it.
import Derived.Test.YtlifeghjcgbfnaaGx0
import Derived.Test.YtlifeghjcgbfnaaGx6
import Derived.Test.YtlifeghjcgbfnaaGx7
import Derived.Test.YtlifeghjcgbfnaaGx16
namespace Go.Proofs.Ytlifeghjcgbfnaa.G
open Go.RowKit Go.Proofs.YtlifeghjcgbfnaaW.PrintWords Go.Proofs.YtlifeghjcgbfnaaW.PrintLast Go.Proofs.YtlifeghjcgbfnaaW.PrintMore
attribute [local go_sem] max2_int min2_int max_two min_two max_three min_three max_four min_four   -- for this text's walks alone
set_option linter.unusedVariables false
set_option linter.unusedSimpArgs false

/-! ### impact_may: function 46 -/
def impact_may.f (k : Nat) (s0_0 : Int) (s0_1 : Int) (s0_2 : Int) (s0_3 : Int) (s0_4 : Int) (s0_5 : Int) (s0_6 : Int) (s0_7 : Int) : Option (Bool) := (impact_within.f k 2147483648 (([s0_2, s0_3] : List Int))).bind fun t401 => (if t401 = true then ((impact_within.f k 131072 (([s0_5, s0_6] : List Int))).bind fun t405 => (some t405)) else (some false))
theorem impact_may.mono : ∀ a0 a1 a2 a3 a4 a5 a6 a7 k, LeO (impact_may.f k a0 a1 a2 a3 a4 a5 a6 a7) (impact_may.f (k + 1) a0 a1 a2 a3 a4 a5 a6 a7) := by
 intro a0 a1 a2 a3 a4 a5 a6 a7 k
 unfold impact_may.f
 repeat' first
   | (with_reducible exact impact_within.mono _ _ _)
   | (with_reducible exact LeO.refl _)
   | (with_reducible exact LeO.none _)
   | (with_reducible refine LeO.ite ?_ ?_)
   | (with_reducible refine LeO.bind ?_ (fun _ => ?_))
   | exact impact_within.mono _ _ _
   | exact LeO.none _
   | refine LeO.ite ?_ ?_
   | refine LeO.bind ?_ (fun _ => ?_)
def impact_may.T1 : Bool × List (List Nat × List Nat) := (true, [([], []), ([0], [0]), ([1], [1]), ([2], [2]), ([], []), ([4], [4]), ([5], [5]), ([6], [6]), ([3, 7], [3, 7]), ([8], [8]), ([9, 9], [9]), ([10], [10]), ([11, 10], [10, 11]), ([12, 10], [10, 12]), ([13, 10], [10, 13]), ([10], [10]), ([15, 10], [10, 15]), ([16, 10], [10, 16]), ([17, 10], [10, 17]), ([14, 18, 10], [10, 14, 18]), ([19, 10, 10], [10, 19]), ([10, 20], [10, 20]), ([21, 20, 0, 1, 2, 3, 4, 5, 6, 7, 8, 9, 10, 11, 12, 13, 14, 15, 16, 17, 18, 19, 20, 21], [21])])
def impact_may.B1 : List Nat := [0, 1, 3, 7, 0, 16, 48, 112, 255, 511, 1023, 2047, 4095, 8191, 16383, 2047, 34815, 100351, 231423, 524287, 1048575, 2097151, 4194303]
theorem impact_may.tab1 : rtab .any (opsOf Try.f46 1) = impact_may.T1 := by kernel_rfl
theorem impact_may.bits1 : waitsOk impact_may.T1.2 impact_may.B1 = true := by kernel_rfl
set_option maxHeartbeats 8000000 in
set_option maxRecDepth 100000 in
theorem impact_may.calls (k : Nat) (g : Nat) (s0_0 : Int) (s0_1 : Int) (s0_2 : Int) (s0_3 : Int) (s0_4 : Int) (s0_5 : Int) (s0_6 : Int) (s0_7 : Int) (r : Bool) (w : World) (hbx : w.heap[g]? = some (.cells #[.int .i64 s0_0, .int .i64 s0_1, .int .i64 s0_2, .int .i64 s0_3, .int .i64 s0_4, .int .i64 s0_5, .int .i64 s0_6, .int .i64 s0_7] 37 (0, 0))) (h : impact_may.f k s0_0 s0_1 s0_2 s0_3 s0_4 s0_5 s0_6 s0_7 = some r) :
  Calls Try.prog 46 #[.pointer (some ⟨g, 0, none⟩)] w fun e w' => e = .returned (.bool r) ∧ Below w.heap.size w w' := by
 have BK0 := bA hbx
 clear hbx
 have HB := bA (Below.refl w.heap.size w)
 have H : ((impact_within.f k 2147483648 (([s0_2, s0_3] : List Int))).bind fun t401 => (if t401 = true then ((impact_within.f k 131072 (([s0_5, s0_6] : List Int))).bind fun t405 => (some t405)) else (some false))) = some r := h
 clear h
 obtain ⟨y398, hy398⟩ : ∃ y_ : List Int, y_ = (([s0_2, s0_3] : List Int)) := ⟨_, rfl⟩
 replace H : ((impact_within.f k 2147483648 y398).bind fun t401 => (if t401 = true then ((impact_within.f k 131072 (([s0_5, s0_6] : List Int))).bind fun t405 => (some t405)) else (some false))) = some r := by first | (rw [hy398]; with_reducible exact H) | (have H2_ := (Option.bind_some _ _).symm.trans H; rw [hy398]; with_reducible exact H2_) | (have H2_ := (Option.bind_some _ _).symm.trans H; with_reducible exact H2_) | with_reducible exact H | (rw [hy398]; exact H) | exact H
 have Ny398 := bA hy398
 clear hy398
 replace H := Option.bind_eq_some_iff.mp H
 obtain ⟨t401, A20, H⟩ := H
 replace H : (if t401 = true then ((impact_within.f k 131072 (([s0_5, s0_6] : List Int))).bind fun t405 => (some t405)) else (some false)) = some r := H
 have A2 := bA A20
 clear A20
 by_cases c3 : t401 = true
 ·subst c3
  rw [if_pos rfl] at H
  obtain ⟨y402, hy402⟩ : ∃ y_ : List Int, y_ = (([s0_5, s0_6] : List Int)) := ⟨_, rfl⟩
  replace H : ((impact_within.f k 131072 y402).bind fun t405 => (some t405)) = some r := by first | (rw [hy402]; with_reducible exact H) | (have H2_ := (Option.bind_some _ _).symm.trans H; rw [hy402]; with_reducible exact H2_) | (have H2_ := (Option.bind_some _ _).symm.trans H; with_reducible exact H2_) | with_reducible exact H | (rw [hy402]; exact H) | exact H
  have Ny402 := bA hy402
  clear hy402
  replace H := Option.bind_eq_some_iff.mp H
  obtain ⟨t405, A40, H⟩ := H
  replace H : (some t405) = some r := H
  have A4 := bA A40
  clear A40
  obtain rfl := Option.some.inj H
  go_enter Try.func46, Try.ntmps46
  try go_wp2
  have n0_ := bA (blk_drew BK0.out)
  have n1_ := bA (below_drew1 HB.out)
  clear BK0
  clear HB
  have BK0 := n0_
  have HB := n1_
  clear n0_ n1_
  refine start_ (n := 23) (S := fun w' => w'.cell? ⟨g, 0, none⟩ = some (.int .i64 s0_0) ∧ w'.cell? ⟨g, 1, none⟩ = some (.int .i64 s0_1) ∧ w'.cell? ⟨g, 2, none⟩ = some (.int .i64 s0_2) ∧ w'.cell? ⟨g, 3, none⟩ = some (.int .i64 s0_3) ∧ w'.cell? ⟨g, 4, none⟩ = some (.int .i64 s0_4) ∧ w'.cell? ⟨g, 5, none⟩ = some (.int .i64 s0_5) ∧ w'.cell? ⟨g, 6, none⟩ = some (.int .i64 s0_6) ∧ w'.cell? ⟨g, 7, none⟩ = some (.int .i64 s0_7)) (ds := []) #[false, false, false, false, false, false, false, false, false, false, false, false, false, false, false, false, false, false, false, false, false, false, false] (by kernel_rfl) rfl rfl ⟨(blk_cell BK0.out 0).trans rfl, (blk_cell BK0.out 1).trans rfl, (blk_cell BK0.out 2).trans rfl, (blk_cell BK0.out 3).trans rfl, (blk_cell BK0.out 4).trans rfl, (blk_cell BK0.out 5).trans rfl, (blk_cell BK0.out 6).trans rfl, (blk_cell BK0.out 7).trans rfl⟩ (fun hHeld => ?_); refine with_tabW impact_may.tab1 impact_may.bits1 (fun HT_ HW_ => ?_)
  generalize w.drew = w5 at BK0 HB hHeld ⊢
  refine pure_ (i := 0) (N := some 3) (v := ?_) (a' := ?_) #[true, false, false, false, false, false, false, false, false, false, false, false, false, false, false, false, false, false, false, false, false, false, false] rfl rfl (any_of HT_.out (by kernel_rfl)) (fun _ _ _ h => h) (Or.inl ⟨by rfl, ?_⟩) ?_ ?_
  rotate_left
  ·intro w'
   go_simp
   with_reducible rfl
  rotate_left
  ·simp only [Act.put, List.setIfInBounds_toArray, List.set_cons_zero, List.set_cons_succ, i64_w, i32_w]
   rfl
  refine pure_ (i := 1) (N := some 4) (v := ?_) (a' := ?_) #[true, true, false, false, false, false, false, false, false, false, false, false, false, false, false, false, false, false, false, false, false, false, false] rfl rfl (any_of HT_.out (by kernel_rfl)) (fun _ _ _ h => h) (Or.inl ⟨by rfl, ?_⟩) ?_ ?_
  rotate_left
  ·intro w'
   go_simp
   with_reducible rfl
  rotate_left
  ·simp only [Act.put, List.setIfInBounds_toArray, List.set_cons_zero, List.set_cons_succ, i64_w, i32_w]
   rfl
  refine pure_ (i := 2) (N := some 5) (v := ?_) (a' := ?_) #[true, true, true, false, false, false, false, false, false, false, false, false, false, false, false, false, false, false, false, false, false, false, false] rfl rfl (any_of HT_.out (by kernel_rfl)) (fun _ _ _ h => h) (Or.inl ⟨by rfl, ?_⟩) ?_ ?_
  rotate_left
  ·intro w'
   go_simp
   with_reducible rfl
  rotate_left
  ·simp only [Act.put, List.setIfInBounds_toArray, List.set_cons_zero, List.set_cons_succ, i64_w, i32_w]
   rfl
  refine pure_ (i := 4) (N := some 7) (v := ?_) (a' := ?_) #[true, true, true, false, true, false, false, false, false, false, false, false, false, false, false, false, false, false, false, false, false, false, false] rfl rfl (any_of HT_.out (by kernel_rfl)) (fun _ _ _ h => h) (Or.inl ⟨by rfl, ?_⟩) ?_ ?_
  rotate_left
  ·intro w'
   go_simp
   with_reducible rfl
  rotate_left
  ·simp only [Act.put, List.setIfInBounds_toArray, List.set_cons_zero, List.set_cons_succ, i64_w, i32_w]
   rfl
  refine pure_ (i := 5) (N := some 8) (v := ?_) (a' := ?_) #[true, true, true, false, true, true, false, false, false, false, false, false, false, false, false, false, false, false, false, false, false, false, false] rfl rfl (any_of HT_.out (by kernel_rfl)) (fun _ _ _ h => h) (Or.inl ⟨by rfl, ?_⟩) ?_ ?_
  rotate_left
  ·intro w'
   go_simp
   with_reducible rfl
  rotate_left
  ·simp only [Act.put, List.setIfInBounds_toArray, List.set_cons_zero, List.set_cons_succ, i64_w, i32_w]
   rfl
  refine pure_ (i := 6) (N := some 9) (v := ?_) (a' := ?_) #[true, true, true, false, true, true, true, false, false, false, false, false, false, false, false, false, false, false, false, false, false, false, false] rfl rfl (any_of HT_.out (by kernel_rfl)) (fun _ _ _ h => h) (Or.inl ⟨by rfl, ?_⟩) ?_ ?_
  rotate_left
  ·intro w'
   go_simp
   with_reducible rfl
  rotate_left
  ·simp only [Act.put, List.setIfInBounds_toArray, List.set_cons_zero, List.set_cons_succ, i64_w, i32_w]
   rfl
  refine take_ (i := 3) (N := some 6) (v := ?_) (a' := ?_) #[true, true, true, true, true, true, true, false, false, false, false, false, false, false, false, false, false, false, false, false, false, false, false] rfl rfl (take_ofW HT_.out HW_.out (by kernel_rfl)) (fun _ _ _ h => h) (Or.inl ⟨by rfl, ?_⟩) hHeld ?_ ?_
  rotate_left
  ·rintro w' ⟨s0, s1, s2, s3, s4, s5, s6, s7⟩
   go_simp
   with_reducible rfl
  rotate_left
  ·simp only [Act.put, List.setIfInBounds_toArray, List.set_cons_zero, List.set_cons_succ, i64_w, i32_w]
   rfl
  refine take_ (i := 7) (N := some 10) (v := ?_) (a' := ?_) #[true, true, true, true, true, true, true, true, false, false, false, false, false, false, false, false, false, false, false, false, false, false, false] rfl rfl (take_ofW HT_.out HW_.out (by kernel_rfl)) (fun _ _ _ h => h) (Or.inl ⟨by rfl, ?_⟩) hHeld ?_ ?_
  rotate_left
  ·rintro w' ⟨s0, s1, s2, s3, s4, s5, s6, s7⟩
   go_simp
   with_reducible rfl
  rotate_left
  ·simp only [Act.put, List.setIfInBounds_toArray, List.set_cons_zero, List.set_cons_succ, i64_w, i32_w]
   rfl
  refine one_ (i := 8) (N := some 11) #[true, true, true, true, true, true, true, true, true, false, false, false, false, false, false, false, false, false, false, false, false, false, false] rfl rfl (one_of HT_.out (by kernel_rfl)) (by decide) (fun K hK => ?_)
  refine Kd.R_lit_step (Kd.int .i64) _ 2 ?hg (N := 11) ?hd (xs := ([s0_2, s0_3] : List Int)) (inner := [.int .i64 s0_2, .int .i64 s0_3]) (ok := fun _ => True) (okp := fun _ => True) ?hr ?hp (fun _ hk => hk) trivial (Below.refl _ _) (Nat.le_refl _) (by simp) ?_; (case hd => rfl); (case hg => rfl); (case hr => first | (go_simp; done) | (go_simp; rfl)); (case hp => exact (Reps.one (show Kd.M (Kd.int .i64) _ _ _ s0_2 [.int .i64 s0_2] from rfl) (Reps.one (show Kd.M (Kd.int .i64) _ _ _ s0_3 [.int .i64 s0_3] from rfl) (Reps.none _ _))))
  intro v399 w6 ho7 hb hg_ hnew_
  clear hg_ hnew_
  (first | rw [← Ny398.out] at ho7 | (simp only [Int.reduceToNat] at ho7; rw [← Ny398.out] at ho7))
  have n0_ := bA (Kd.R_lower ho7 bY)
  have n1_ := bA (blk_below (g := g) (o := .cells #[.int .i64 s0_0, .int .i64 s0_1, .int .i64 s0_2, .int .i64 s0_3, .int .i64 s0_4, .int .i64 s0_5, .int .i64 s0_6, .int .i64 s0_7] 37 (0, 0)) (by (with_reducible repeat (first | refine blk_drewN ?_ _ | refine blk_drew ?_ | refine blk_alloc ?_ _)); exact BK0.out) hb)
  have n2_ := bA (bS hb)
  clear BK0
  clear HB
  have HO400 := n0_
  have BK0 := n1_
  have HB := n2_
  clear n0_ n1_ n2_
  clear hb ho7
  obtain ⟨Ao8, co8, eo8⟩ := Kd.R_slice HO400.out
  (first | subst eo8 | (injection eo8 with f1_ f2_ f3_; have f4_ := f1_.symm; have f5_ := f3_.symm; clear f1_ f2_ f3_; subst f4_; subst f5_))
  refine hK.out _ _ ⟨(blk_cell BK0.out 0).trans rfl, (blk_cell BK0.out 1).trans rfl, (blk_cell BK0.out 2).trans rfl, (blk_cell BK0.out 3).trans rfl, (blk_cell BK0.out 4).trans rfl, (blk_cell BK0.out 5).trans rfl, (blk_cell BK0.out 6).trans rfl, (blk_cell BK0.out 7).trans rfl⟩ (fun hHeld => ?_)
  clear hK K
  refine norm_ (a' := ?_) ?_ ?_
  rotate_left
  ·show Act.put _ (some 11) _ = _
   simp only [Act.put, List.setIfInBounds_toArray, List.set_cons_zero, List.set_cons_succ, i64_w, i32_w]
   rfl
  refine one_ (i := 9) (N := some 12) #[true, true, true, true, true, true, true, true, true, true, false, false, false, false, false, false, false, false, false, false, false, false, false] rfl rfl (one_of HT_.out (by kernel_rfl)) (by decide) (fun K hK => ?_)
  refine goes_ Try.func65 (by kernel_rfl) rfl #[.int .i64 2147483648, .slice Ao8 y398.length co8] (by rfl) rfl rfl (by (try simp only [List.map_toArray, List.map_cons, List.map_nil]); first | done | rfl | (simp only [List.length_drop, List.length_take]; rfl)) ?_
  with_reducible refine (impact_within.calls k 2147483648 _ _ y398 true _ ?side1 ?side2 A2.out).mono ?_
  (case side1 => repeat (first | exact (Kd.R_reads' HO400.out).2.2 | (with_reducible refine Kd.C_alloc ?_ _) | (with_reducible refine Kd.C_drewN ?_ _) | (with_reducible refine Kd.C_drew ?_)))
  (case side2 => exact (Kd.R_reads' HO400.out).2.1)
  rintro e w' ⟨rfl, ⟨nd, rfl⟩⟩
  refine ⟨_, rfl, ?_⟩
  refine hK.out _ _ ⟨(blk_cell BK0.out 0).trans rfl, (blk_cell BK0.out 1).trans rfl, (blk_cell BK0.out 2).trans rfl, (blk_cell BK0.out 3).trans rfl, (blk_cell BK0.out 4).trans rfl, (blk_cell BK0.out 5).trans rfl, (blk_cell BK0.out 6).trans rfl, (blk_cell BK0.out 7).trans rfl⟩ (fun hHeld => ?_)
  clear hK K
  refine norm_ (a' := ?_) ?_ ?_
  rotate_left
  ·show Act.put _ (some 12) _ = _
   simp only [Act.put, List.setIfInBounds_toArray, List.set_cons_zero, List.set_cons_succ, i64_w, i32_w]
   rfl
  refine pure_ (i := 10) (N := some 13) (v := ?_) (a' := ?_) #[true, true, true, true, true, true, true, true, true, true, true, false, false, false, false, false, false, false, false, false, false, false, false] rfl rfl (any_of HT_.out (by kernel_rfl)) (fun _ _ _ h => h) (Or.inl ⟨by rfl, ?_⟩) ?_ ?_
  rotate_left
  ·intro w'
   go_simp
   with_reducible rfl
  rotate_left
  ·simp only [Act.put, List.setIfInBounds_toArray, List.set_cons_zero, List.set_cons_succ, i64_w, i32_w]
   rfl
  refine pure_ (i := 11) (N := some 14) (v := ?_) (a' := ?_) #[true, true, true, true, true, true, true, true, true, true, true, true, false, false, false, false, false, false, false, false, false, false, false] rfl rfl (any_of HT_.out (by kernel_rfl)) (fun _ _ _ h => h) (Or.inl ⟨by rfl, ?_⟩) ?_ ?_
  rotate_left
  ·intro w'
   go_simp
   with_reducible rfl
  rotate_left
  ·simp only [Act.put, List.setIfInBounds_toArray, List.set_cons_zero, List.set_cons_succ, i64_w, i32_w]
   rfl
  refine pure_ (i := 12) (N := some 15) (v := ?_) (a' := ?_) #[true, true, true, true, true, true, true, true, true, true, true, true, true, false, false, false, false, false, false, false, false, false, false] rfl rfl (any_of HT_.out (by kernel_rfl)) (fun _ _ _ h => h) (Or.inl ⟨by rfl, ?_⟩) ?_ ?_
  rotate_left
  ·intro w'
   go_simp
   with_reducible rfl
  rotate_left
  ·simp only [Act.put, List.setIfInBounds_toArray, List.set_cons_zero, List.set_cons_succ, i64_w, i32_w]
   rfl
  refine pure_ (i := 13) (N := some 16) (v := ?_) (a' := ?_) #[true, true, true, true, true, true, true, true, true, true, true, true, true, true, false, false, false, false, false, false, false, false, false] rfl rfl (any_of HT_.out (by kernel_rfl)) (fun _ _ _ h => h) (Or.inl ⟨by rfl, ?_⟩) ?_ ?_
  rotate_left
  ·intro w'
   go_simp
   with_reducible rfl
  rotate_left
  ·simp only [Act.put, List.setIfInBounds_toArray, List.set_cons_zero, List.set_cons_succ, i64_w, i32_w]
   rfl
  refine pure_ (i := 15) (N := some 18) (v := ?_) (a' := ?_) #[true, true, true, true, true, true, true, true, true, true, true, true, true, true, false, true, false, false, false, false, false, false, false] rfl rfl (any_of HT_.out (by kernel_rfl)) (fun _ _ _ h => h) (Or.inl ⟨by rfl, ?_⟩) ?_ ?_
  rotate_left
  ·intro w'
   go_simp
   with_reducible rfl
  rotate_left
  ·simp only [Act.put, List.setIfInBounds_toArray, List.set_cons_zero, List.set_cons_succ, i64_w, i32_w]
   rfl
  refine pure_ (i := 16) (N := some 19) (v := ?_) (a' := ?_) #[true, true, true, true, true, true, true, true, true, true, true, true, true, true, false, true, true, false, false, false, false, false, false] rfl rfl (any_of HT_.out (by kernel_rfl)) (fun _ _ _ h => h) (Or.inl ⟨by rfl, ?_⟩) ?_ ?_
  rotate_left
  ·intro w'
   go_simp
   with_reducible rfl
  rotate_left
  ·simp only [Act.put, List.setIfInBounds_toArray, List.set_cons_zero, List.set_cons_succ, i64_w, i32_w]
   rfl
  refine pure_ (i := 17) (N := some 20) (v := ?_) (a' := ?_) #[true, true, true, true, true, true, true, true, true, true, true, true, true, true, false, true, true, true, false, false, false, false, false] rfl rfl (any_of HT_.out (by kernel_rfl)) (fun _ _ _ h => h) (Or.inl ⟨by rfl, ?_⟩) ?_ ?_
  rotate_left
  ·intro w'
   go_simp
   with_reducible rfl
  rotate_left
  ·simp only [Act.put, List.setIfInBounds_toArray, List.set_cons_zero, List.set_cons_succ, i64_w, i32_w]
   rfl
  refine take_ (i := 14) (N := some 17) (v := ?_) (a' := ?_) #[true, true, true, true, true, true, true, true, true, true, true, true, true, true, true, true, true, true, false, false, false, false, false] rfl rfl (take_ofW HT_.out HW_.out (by kernel_rfl)) (fun _ _ _ h => h) (Or.inl ⟨by rfl, ?_⟩) hHeld ?_ ?_
  rotate_left
  ·rintro w' ⟨s0, s1, s2, s3, s4, s5, s6, s7⟩
   go_simp
   with_reducible rfl
  rotate_left
  ·simp only [Act.put, List.setIfInBounds_toArray, List.set_cons_zero, List.set_cons_succ, i64_w, i32_w]
   rfl
  refine take_ (i := 18) (N := some 21) (v := ?_) (a' := ?_) #[true, true, true, true, true, true, true, true, true, true, true, true, true, true, true, true, true, true, true, false, false, false, false] rfl rfl (take_ofW HT_.out HW_.out (by kernel_rfl)) (fun _ _ _ h => h) (Or.inl ⟨by rfl, ?_⟩) hHeld ?_ ?_
  rotate_left
  ·rintro w' ⟨s0, s1, s2, s3, s4, s5, s6, s7⟩
   go_simp
   with_reducible rfl
  rotate_left
  ·simp only [Act.put, List.setIfInBounds_toArray, List.set_cons_zero, List.set_cons_succ, i64_w, i32_w]
   rfl
  refine one_ (i := 19) (N := some 22) #[true, true, true, true, true, true, true, true, true, true, true, true, true, true, true, true, true, true, true, true, false, false, false] rfl rfl (one_of HT_.out (by kernel_rfl)) (by decide) (fun K hK => ?_)
  refine Kd.R_lit_step (Kd.int .i64) _ 2 ?hg (N := 22) ?hd (xs := ([s0_5, s0_6] : List Int)) (inner := [.int .i64 s0_5, .int .i64 s0_6]) (ok := fun _ => True) (okp := fun _ => True) ?hr ?hp (fun _ hk => hk) trivial (Below.refl _ _) (Nat.le_refl _) (by simp) ?_; (case hd => rfl); (case hg => rfl); (case hr => first | (go_simp; done) | (go_simp; rfl)); (case hp => exact (Reps.one (show Kd.M (Kd.int .i64) _ _ _ s0_5 [.int .i64 s0_5] from rfl) (Reps.one (show Kd.M (Kd.int .i64) _ _ _ s0_6 [.int .i64 s0_6] from rfl) (Reps.none _ _))))
  intro v403 w9 ho10 hb hg_ hnew_
  clear hg_ hnew_
  (first | rw [← Ny402.out] at ho10 | (simp only [Int.reduceToNat] at ho10; rw [← Ny402.out] at ho10))
  have n0_ := bA (Kd.R_elder' (by (with_reducible repeat (first | apply Kd.R_alloc | apply Kd.R_drewN | apply Kd.R_drew)); exact HO400.out) (Kd.R_base ho10) hb)
  have n1_ := bA (Kd.R_lower (Kd.R_new' ho10 (Kd.R_lt (by (with_reducible repeat (first | apply Kd.R_alloc | apply Kd.R_drewN | apply Kd.R_drew)); exact HO400.out))) bY)
  have n2_ := bA (blk_below (g := g) (o := .cells #[.int .i64 s0_0, .int .i64 s0_1, .int .i64 s0_2, .int .i64 s0_3, .int .i64 s0_4, .int .i64 s0_5, .int .i64 s0_6, .int .i64 s0_7] 37 (0, 0)) (by (with_reducible repeat (first | refine blk_drewN ?_ _ | refine blk_drew ?_ | refine blk_alloc ?_ _)); exact BK0.out) hb)
  have n3_ := bA (bS hb)
  clear HO400
  clear BK0
  clear HB
  have HO400 := n0_
  have HO404 := n1_
  have BK0 := n2_
  have HB := n3_
  clear n0_ n1_ n2_ n3_
  clear hb ho10
  obtain ⟨Ao11, co11, eo11⟩ := Kd.R_slice HO404.out
  (first | subst eo11 | (injection eo11 with f1_ f2_ f3_; have f4_ := f1_.symm; have f5_ := f3_.symm; clear f1_ f2_ f3_; subst f4_; subst f5_))
  refine hK.out _ _ ⟨(blk_cell BK0.out 0).trans rfl, (blk_cell BK0.out 1).trans rfl, (blk_cell BK0.out 2).trans rfl, (blk_cell BK0.out 3).trans rfl, (blk_cell BK0.out 4).trans rfl, (blk_cell BK0.out 5).trans rfl, (blk_cell BK0.out 6).trans rfl, (blk_cell BK0.out 7).trans rfl⟩ (fun hHeld => ?_)
  clear hK K
  refine norm_ (a' := ?_) ?_ ?_
  rotate_left
  ·show Act.put _ (some 22) _ = _
   simp only [Act.put, List.setIfInBounds_toArray, List.set_cons_zero, List.set_cons_succ, i64_w, i32_w]
   rfl
  refine one_ (i := 20) (N := some 23) #[true, true, true, true, true, true, true, true, true, true, true, true, true, true, true, true, true, true, true, true, true, false, false] rfl rfl (one_of HT_.out (by kernel_rfl)) (by decide) (fun K hK => ?_)
  refine goes_ Try.func65 (by kernel_rfl) rfl #[.int .i64 131072, .slice Ao11 y402.length co11] (by rfl) rfl rfl (by (try simp only [List.map_toArray, List.map_cons, List.map_nil]); first | done | rfl | (simp only [List.length_drop, List.length_take]; rfl)) ?_
  with_reducible refine (impact_within.calls k 131072 _ _ y402 t405 _ ?side1 ?side2 A4.out).mono ?_
  (case side1 => repeat (first | exact (Kd.R_reads' HO404.out).2.2 | (with_reducible refine Kd.C_alloc ?_ _) | (with_reducible refine Kd.C_drewN ?_ _) | (with_reducible refine Kd.C_drew ?_)))
  (case side2 => exact (Kd.R_reads' HO404.out).2.1)
  rintro e w' ⟨rfl, ⟨nd, rfl⟩⟩
  refine ⟨_, rfl, ?_⟩
  refine hK.out _ _ ⟨(blk_cell BK0.out 0).trans rfl, (blk_cell BK0.out 1).trans rfl, (blk_cell BK0.out 2).trans rfl, (blk_cell BK0.out 3).trans rfl, (blk_cell BK0.out 4).trans rfl, (blk_cell BK0.out 5).trans rfl, (blk_cell BK0.out 6).trans rfl, (blk_cell BK0.out 7).trans rfl⟩ (fun hHeld => ?_)
  clear hK K
  refine norm_ (a' := ?_) ?_ ?_
  rotate_left
  ·show Act.put _ (some 23) _ = _
   simp only [Act.put, List.setIfInBounds_toArray, List.set_cons_zero, List.set_cons_succ, i64_w, i32_w]
   rfl
  refine pure_ (i := 21) (N := some 24) (v := ?_) (a' := ?_) #[true, true, true, true, true, true, true, true, true, true, true, true, true, true, true, true, true, true, true, true, true, true, false] rfl rfl (any_of HT_.out (by kernel_rfl)) (fun _ _ _ h => h) (Or.inl ⟨by rfl, ?_⟩) ?_ ?_
  rotate_left
  ·intro w'
   go_simp
   with_reducible rfl
  rotate_left
  ·simp only [Act.put, List.setIfInBounds_toArray, List.set_cons_zero, List.set_cons_succ, i64_w, i32_w]
   rfl
  refine pure_ (i := 22) (N := some 2) (v := ?_) (a' := ?_) #[true, true, true, true, true, true, true, true, true, true, true, true, true, true, true, true, true, true, true, true, true, true, true] rfl rfl (any_of HT_.out (by kernel_rfl)) (fun _ _ _ h => h) (Or.inl ⟨by rfl, ?_⟩) ?_ ?_
  rotate_left
  ·intro w'
   go_simp
   with_reducible rfl
  rotate_left
  ·simp only [Act.put, List.setIfInBounds_toArray, List.set_cons_zero, List.set_cons_succ, i64_w, i32_w]
   rfl
  refine done_ (done_of HT_.out (by kernel_rfl)) ?_
  try go_wp2
  go_ret
  exact bF
 ·replace c3 := Bool.eq_false_iff.mpr c3
  subst c3
  rw [if_neg (show ¬ (false = true) by decide)] at H
  obtain rfl := Option.some.inj H
  go_enter Try.func46, Try.ntmps46
  try go_wp2
  have n0_ := bA (blk_drew BK0.out)
  have n1_ := bA (below_drew1 HB.out)
  clear BK0
  clear HB
  have BK0 := n0_
  have HB := n1_
  clear n0_ n1_
  refine start_ (n := 23) (S := fun w' => w'.cell? ⟨g, 0, none⟩ = some (.int .i64 s0_0) ∧ w'.cell? ⟨g, 1, none⟩ = some (.int .i64 s0_1) ∧ w'.cell? ⟨g, 2, none⟩ = some (.int .i64 s0_2) ∧ w'.cell? ⟨g, 3, none⟩ = some (.int .i64 s0_3) ∧ w'.cell? ⟨g, 4, none⟩ = some (.int .i64 s0_4) ∧ w'.cell? ⟨g, 5, none⟩ = some (.int .i64 s0_5) ∧ w'.cell? ⟨g, 6, none⟩ = some (.int .i64 s0_6) ∧ w'.cell? ⟨g, 7, none⟩ = some (.int .i64 s0_7)) (ds := []) #[false, false, false, false, false, false, false, false, false, false, false, false, false, false, false, false, false, false, false, false, false, false, false] (by kernel_rfl) rfl rfl ⟨(blk_cell BK0.out 0).trans rfl, (blk_cell BK0.out 1).trans rfl, (blk_cell BK0.out 2).trans rfl, (blk_cell BK0.out 3).trans rfl, (blk_cell BK0.out 4).trans rfl, (blk_cell BK0.out 5).trans rfl, (blk_cell BK0.out 6).trans rfl, (blk_cell BK0.out 7).trans rfl⟩ (fun hHeld => ?_); refine with_tabW impact_may.tab1 impact_may.bits1 (fun HT_ HW_ => ?_)
  generalize w.drew = w12 at BK0 HB hHeld ⊢
  refine pure_ (i := 0) (N := some 3) (v := ?_) (a' := ?_) #[true, false, false, false, false, false, false, false, false, false, false, false, false, false, false, false, false, false, false, false, false, false, false] rfl rfl (any_of HT_.out (by kernel_rfl)) (fun _ _ _ h => h) (Or.inl ⟨by rfl, ?_⟩) ?_ ?_
  rotate_left
  ·intro w'
   go_simp
   with_reducible rfl
  rotate_left
  ·simp only [Act.put, List.setIfInBounds_toArray, List.set_cons_zero, List.set_cons_succ, i64_w, i32_w]
   rfl
  refine pure_ (i := 1) (N := some 4) (v := ?_) (a' := ?_) #[true, true, false, false, false, false, false, false, false, false, false, false, false, false, false, false, false, false, false, false, false, false, false] rfl rfl (any_of HT_.out (by kernel_rfl)) (fun _ _ _ h => h) (Or.inl ⟨by rfl, ?_⟩) ?_ ?_
  rotate_left
  ·intro w'
   go_simp
   with_reducible rfl
  rotate_left
  ·simp only [Act.put, List.setIfInBounds_toArray, List.set_cons_zero, List.set_cons_succ, i64_w, i32_w]
   rfl
  refine pure_ (i := 2) (N := some 5) (v := ?_) (a' := ?_) #[true, true, true, false, false, false, false, false, false, false, false, false, false, false, false, false, false, false, false, false, false, false, false] rfl rfl (any_of HT_.out (by kernel_rfl)) (fun _ _ _ h => h) (Or.inl ⟨by rfl, ?_⟩) ?_ ?_
  rotate_left
  ·intro w'
   go_simp
   with_reducible rfl
  rotate_left
  ·simp only [Act.put, List.setIfInBounds_toArray, List.set_cons_zero, List.set_cons_succ, i64_w, i32_w]
   rfl
  refine pure_ (i := 4) (N := some 7) (v := ?_) (a' := ?_) #[true, true, true, false, true, false, false, false, false, false, false, false, false, false, false, false, false, false, false, false, false, false, false] rfl rfl (any_of HT_.out (by kernel_rfl)) (fun _ _ _ h => h) (Or.inl ⟨by rfl, ?_⟩) ?_ ?_
  rotate_left
  ·intro w'
   go_simp
   with_reducible rfl
  rotate_left
  ·simp only [Act.put, List.setIfInBounds_toArray, List.set_cons_zero, List.set_cons_succ, i64_w, i32_w]
   rfl
  refine pure_ (i := 5) (N := some 8) (v := ?_) (a' := ?_) #[true, true, true, false, true, true, false, false, false, false, false, false, false, false, false, false, false, false, false, false, false, false, false] rfl rfl (any_of HT_.out (by kernel_rfl)) (fun _ _ _ h => h) (Or.inl ⟨by rfl, ?_⟩) ?_ ?_
  rotate_left
  ·intro w'
   go_simp
   with_reducible rfl
  rotate_left
  ·simp only [Act.put, List.setIfInBounds_toArray, List.set_cons_zero, List.set_cons_succ, i64_w, i32_w]
   rfl
  refine pure_ (i := 6) (N := some 9) (v := ?_) (a' := ?_) #[true, true, true, false, true, true, true, false, false, false, false, false, false, false, false, false, false, false, false, false, false, false, false] rfl rfl (any_of HT_.out (by kernel_rfl)) (fun _ _ _ h => h) (Or.inl ⟨by rfl, ?_⟩) ?_ ?_
  rotate_left
  ·intro w'
   go_simp
   with_reducible rfl
  rotate_left
  ·simp only [Act.put, List.setIfInBounds_toArray, List.set_cons_zero, List.set_cons_succ, i64_w, i32_w]
   rfl
  refine take_ (i := 3) (N := some 6) (v := ?_) (a' := ?_) #[true, true, true, true, true, true, true, false, false, false, false, false, false, false, false, false, false, false, false, false, false, false, false] rfl rfl (take_ofW HT_.out HW_.out (by kernel_rfl)) (fun _ _ _ h => h) (Or.inl ⟨by rfl, ?_⟩) hHeld ?_ ?_
  rotate_left
  ·rintro w' ⟨s0, s1, s2, s3, s4, s5, s6, s7⟩
   go_simp
   with_reducible rfl
  rotate_left
  ·simp only [Act.put, List.setIfInBounds_toArray, List.set_cons_zero, List.set_cons_succ, i64_w, i32_w]
   rfl
  refine take_ (i := 7) (N := some 10) (v := ?_) (a' := ?_) #[true, true, true, true, true, true, true, true, false, false, false, false, false, false, false, false, false, false, false, false, false, false, false] rfl rfl (take_ofW HT_.out HW_.out (by kernel_rfl)) (fun _ _ _ h => h) (Or.inl ⟨by rfl, ?_⟩) hHeld ?_ ?_
  rotate_left
  ·rintro w' ⟨s0, s1, s2, s3, s4, s5, s6, s7⟩
   go_simp
   with_reducible rfl
  rotate_left
  ·simp only [Act.put, List.setIfInBounds_toArray, List.set_cons_zero, List.set_cons_succ, i64_w, i32_w]
   rfl
  refine one_ (i := 8) (N := some 11) #[true, true, true, true, true, true, true, true, true, false, false, false, false, false, false, false, false, false, false, false, false, false, false] rfl rfl (one_of HT_.out (by kernel_rfl)) (by decide) (fun K hK => ?_)
  refine Kd.R_lit_step (Kd.int .i64) _ 2 ?hg (N := 11) ?hd (xs := ([s0_2, s0_3] : List Int)) (inner := [.int .i64 s0_2, .int .i64 s0_3]) (ok := fun _ => True) (okp := fun _ => True) ?hr ?hp (fun _ hk => hk) trivial (Below.refl _ _) (Nat.le_refl _) (by simp) ?_; (case hd => rfl); (case hg => rfl); (case hr => first | (go_simp; done) | (go_simp; rfl)); (case hp => exact (Reps.one (show Kd.M (Kd.int .i64) _ _ _ s0_2 [.int .i64 s0_2] from rfl) (Reps.one (show Kd.M (Kd.int .i64) _ _ _ s0_3 [.int .i64 s0_3] from rfl) (Reps.none _ _))))
  intro v399 w13 ho14 hb hg_ hnew_
  clear hg_ hnew_
  (first | rw [← Ny398.out] at ho14 | (simp only [Int.reduceToNat] at ho14; rw [← Ny398.out] at ho14))
  have n0_ := bA (Kd.R_lower ho14 bY)
  have n1_ := bA (blk_below (g := g) (o := .cells #[.int .i64 s0_0, .int .i64 s0_1, .int .i64 s0_2, .int .i64 s0_3, .int .i64 s0_4, .int .i64 s0_5, .int .i64 s0_6, .int .i64 s0_7] 37 (0, 0)) (by (with_reducible repeat (first | refine blk_drewN ?_ _ | refine blk_drew ?_ | refine blk_alloc ?_ _)); exact BK0.out) hb)
  have n2_ := bA (bS hb)
  clear BK0
  clear HB
  have HO400 := n0_
  have BK0 := n1_
  have HB := n2_
  clear n0_ n1_ n2_
  clear hb ho14
  obtain ⟨Ao15, co15, eo15⟩ := Kd.R_slice HO400.out
  (first | subst eo15 | (injection eo15 with f1_ f2_ f3_; have f4_ := f1_.symm; have f5_ := f3_.symm; clear f1_ f2_ f3_; subst f4_; subst f5_))
  refine hK.out _ _ ⟨(blk_cell BK0.out 0).trans rfl, (blk_cell BK0.out 1).trans rfl, (blk_cell BK0.out 2).trans rfl, (blk_cell BK0.out 3).trans rfl, (blk_cell BK0.out 4).trans rfl, (blk_cell BK0.out 5).trans rfl, (blk_cell BK0.out 6).trans rfl, (blk_cell BK0.out 7).trans rfl⟩ (fun hHeld => ?_)
  clear hK K
  refine norm_ (a' := ?_) ?_ ?_
  rotate_left
  ·show Act.put _ (some 11) _ = _
   simp only [Act.put, List.setIfInBounds_toArray, List.set_cons_zero, List.set_cons_succ, i64_w, i32_w]
   rfl
  refine one_ (i := 9) (N := some 12) #[true, true, true, true, true, true, true, true, true, true, false, false, false, false, false, false, false, false, false, false, false, false, false] rfl rfl (one_of HT_.out (by kernel_rfl)) (by decide) (fun K hK => ?_)
  refine goes_ Try.func65 (by kernel_rfl) rfl #[.int .i64 2147483648, .slice Ao15 y398.length co15] (by rfl) rfl rfl (by (try simp only [List.map_toArray, List.map_cons, List.map_nil]); first | done | rfl | (simp only [List.length_drop, List.length_take]; rfl)) ?_
  with_reducible refine (impact_within.calls k 2147483648 _ _ y398 false _ ?side1 ?side2 A2.out).mono ?_
  (case side1 => repeat (first | exact (Kd.R_reads' HO400.out).2.2 | (with_reducible refine Kd.C_alloc ?_ _) | (with_reducible refine Kd.C_drewN ?_ _) | (with_reducible refine Kd.C_drew ?_)))
  (case side2 => exact (Kd.R_reads' HO400.out).2.1)
  rintro e w' ⟨rfl, ⟨nd, rfl⟩⟩
  refine ⟨_, rfl, ?_⟩
  refine hK.out _ _ ⟨(blk_cell BK0.out 0).trans rfl, (blk_cell BK0.out 1).trans rfl, (blk_cell BK0.out 2).trans rfl, (blk_cell BK0.out 3).trans rfl, (blk_cell BK0.out 4).trans rfl, (blk_cell BK0.out 5).trans rfl, (blk_cell BK0.out 6).trans rfl, (blk_cell BK0.out 7).trans rfl⟩ (fun hHeld => ?_)
  clear hK K
  refine norm_ (a' := ?_) ?_ ?_
  rotate_left
  ·show Act.put _ (some 12) _ = _
   simp only [Act.put, List.setIfInBounds_toArray, List.set_cons_zero, List.set_cons_succ, i64_w, i32_w]
   rfl
  refine pure_ (i := 10) (N := some 13) (v := ?_) (a' := ?_) #[true, true, true, true, true, true, true, true, true, true, true, false, false, false, false, false, false, false, false, false, false, false, false] rfl rfl (any_of HT_.out (by kernel_rfl)) (fun _ _ _ h => h) (Or.inl ⟨by rfl, ?_⟩) ?_ ?_
  rotate_left
  ·intro w'
   go_simp
   with_reducible rfl
  rotate_left
  ·simp only [Act.put, List.setIfInBounds_toArray, List.set_cons_zero, List.set_cons_succ, i64_w, i32_w]
   rfl
  refine pure_ (i := 11) (N := some 14) (v := undef) (a' := ?_) #[true, true, true, true, true, true, true, true, true, true, true, true, false, false, false, false, false, false, false, false, false, false, false] rfl rfl (any_of HT_.out (by kernel_rfl)) (fun _ _ _ h => h) (Or.inr ⟨by rfl, rfl⟩) ?_ ?_
  rotate_left
  ·simp only [Act.put, List.setIfInBounds_toArray, List.set_cons_zero, List.set_cons_succ, i64_w, i32_w]
   rfl
  refine pure_ (i := 12) (N := some 15) (v := undef) (a' := ?_) #[true, true, true, true, true, true, true, true, true, true, true, true, true, false, false, false, false, false, false, false, false, false, false] rfl rfl (any_of HT_.out (by kernel_rfl)) (fun _ _ _ h => h) (Or.inr ⟨by rfl, rfl⟩) ?_ ?_
  rotate_left
  ·simp only [Act.put, List.setIfInBounds_toArray, List.set_cons_zero, List.set_cons_succ, i64_w, i32_w]
   rfl
  refine pure_ (i := 13) (N := some 16) (v := undef) (a' := ?_) #[true, true, true, true, true, true, true, true, true, true, true, true, true, true, false, false, false, false, false, false, false, false, false] rfl rfl (any_of HT_.out (by kernel_rfl)) (fun _ _ _ h => h) (Or.inr ⟨by rfl, rfl⟩) ?_ ?_
  rotate_left
  ·simp only [Act.put, List.setIfInBounds_toArray, List.set_cons_zero, List.set_cons_succ, i64_w, i32_w]
   rfl
  refine pure_ (i := 14) (N := some 17) (v := undef) (a' := ?_) #[true, true, true, true, true, true, true, true, true, true, true, true, true, true, true, false, false, false, false, false, false, false, false] rfl rfl (any_of HT_.out (by kernel_rfl)) (fun _ _ _ h => h) (Or.inr ⟨by rfl, rfl⟩) ?_ ?_
  rotate_left
  ·simp only [Act.put, List.setIfInBounds_toArray, List.set_cons_zero, List.set_cons_succ, i64_w, i32_w]
   rfl
  refine pure_ (i := 15) (N := some 18) (v := undef) (a' := ?_) #[true, true, true, true, true, true, true, true, true, true, true, true, true, true, true, true, false, false, false, false, false, false, false] rfl rfl (any_of HT_.out (by kernel_rfl)) (fun _ _ _ h => h) (Or.inr ⟨by rfl, rfl⟩) ?_ ?_
  rotate_left
  ·simp only [Act.put, List.setIfInBounds_toArray, List.set_cons_zero, List.set_cons_succ, i64_w, i32_w]
   rfl
  refine pure_ (i := 16) (N := some 19) (v := undef) (a' := ?_) #[true, true, true, true, true, true, true, true, true, true, true, true, true, true, true, true, true, false, false, false, false, false, false] rfl rfl (any_of HT_.out (by kernel_rfl)) (fun _ _ _ h => h) (Or.inr ⟨by rfl, rfl⟩) ?_ ?_
  rotate_left
  ·simp only [Act.put, List.setIfInBounds_toArray, List.set_cons_zero, List.set_cons_succ, i64_w, i32_w]
   rfl
  refine pure_ (i := 17) (N := some 20) (v := undef) (a' := ?_) #[true, true, true, true, true, true, true, true, true, true, true, true, true, true, true, true, true, true, false, false, false, false, false] rfl rfl (any_of HT_.out (by kernel_rfl)) (fun _ _ _ h => h) (Or.inr ⟨by rfl, rfl⟩) ?_ ?_
  rotate_left
  ·simp only [Act.put, List.setIfInBounds_toArray, List.set_cons_zero, List.set_cons_succ, i64_w, i32_w]
   rfl
  refine pure_ (i := 18) (N := some 21) (v := undef) (a' := ?_) #[true, true, true, true, true, true, true, true, true, true, true, true, true, true, true, true, true, true, true, false, false, false, false] rfl rfl (any_of HT_.out (by kernel_rfl)) (fun _ _ _ h => h) (Or.inr ⟨by rfl, rfl⟩) ?_ ?_
  rotate_left
  ·simp only [Act.put, List.setIfInBounds_toArray, List.set_cons_zero, List.set_cons_succ, i64_w, i32_w]
   rfl
  refine pure_ (i := 19) (N := some 22) (v := undef) (a' := ?_) #[true, true, true, true, true, true, true, true, true, true, true, true, true, true, true, true, true, true, true, true, false, false, false] rfl rfl (any_of HT_.out (by kernel_rfl)) (fun _ _ _ h => h) (Or.inr ⟨by rfl, rfl⟩) ?_ ?_
  rotate_left
  ·simp only [Act.put, List.setIfInBounds_toArray, List.set_cons_zero, List.set_cons_succ, i64_w, i32_w]
   rfl
  refine pure_ (i := 20) (N := some 23) (v := undef) (a' := ?_) #[true, true, true, true, true, true, true, true, true, true, true, true, true, true, true, true, true, true, true, true, true, false, false] rfl rfl (any_of HT_.out (by kernel_rfl)) (fun _ _ _ h => h) (Or.inr ⟨by rfl, rfl⟩) ?_ ?_
  rotate_left
  ·simp only [Act.put, List.setIfInBounds_toArray, List.set_cons_zero, List.set_cons_succ, i64_w, i32_w]
   rfl
  refine pure_ (i := 21) (N := some 24) (v := ?_) (a' := ?_) #[true, true, true, true, true, true, true, true, true, true, true, true, true, true, true, true, true, true, true, true, true, true, false] rfl rfl (any_of HT_.out (by kernel_rfl)) (fun _ _ _ h => h) (Or.inl ⟨by rfl, ?_⟩) ?_ ?_
  rotate_left
  ·intro w'
   go_simp
   with_reducible rfl
  rotate_left
  ·simp only [Act.put, List.setIfInBounds_toArray, List.set_cons_zero, List.set_cons_succ, i64_w, i32_w]
   rfl
  refine pure_ (i := 22) (N := some 2) (v := ?_) (a' := ?_) #[true, true, true, true, true, true, true, true, true, true, true, true, true, true, true, true, true, true, true, true, true, true, true] rfl rfl (any_of HT_.out (by kernel_rfl)) (fun _ _ _ h => h) (Or.inl ⟨by rfl, ?_⟩) ?_ ?_
  rotate_left
  ·intro w'
   go_simp
   with_reducible rfl
  rotate_left
  ·simp only [Act.put, List.setIfInBounds_toArray, List.set_cons_zero, List.set_cons_succ, i64_w, i32_w]
   rfl
  refine done_ (done_of HT_.out (by kernel_rfl)) ?_
  try go_wp2
  go_ret
  exact bF
/-! ### impact_side: function 47 -/
def impact_side.f (a0 : Int) (a1 : Int) (a2 : Int) (a3 : Int) (a4 : Int) : Option (Int × Int) := some (wrap64 ((wrap64 (a0 - a2)) + (mn (wrap64 ((wrap64 (a1 - a2)) * a3)) (wrap64 ((wrap64 (a1 - a2)) * a4)))), wrap64 ((wrap64 (a0 + a2)) + (mx (wrap64 ((wrap64 (a1 + a2)) * a3)) (wrap64 ((wrap64 (a1 + a2)) * a4)))))
set_option maxHeartbeats 8000000 in
set_option maxRecDepth 100000 in
theorem impact_side.calls (a0 : Int) (a1 : Int) (a2 : Int) (a3 : Int) (a4 : Int) (r1 : Int) (r2 : Int) (w : World) (h : impact_side.f a0 a1 a2 a3 a4 = some (r1, r2)) :
  Calls Try.prog 47 #[.int .i64 a0, .int .i64 a1, .int .i64 a2, .int .i64 a3, .int .i64 a4] w fun e w' => e = .returned (.tuple #[.int .i64 r1, .int .i64 r2]) ∧ Below w.heap.size w w' := by
 have HB := bA (Below.refl w.heap.size w)
 have H : (some (wrap64 ((wrap64 (a0 - a2)) + (mn (wrap64 ((wrap64 (a1 - a2)) * a3)) (wrap64 ((wrap64 (a1 - a2)) * a4)))), wrap64 ((wrap64 (a0 + a2)) + (mx (wrap64 ((wrap64 (a1 + a2)) * a3)) (wrap64 ((wrap64 (a1 + a2)) * a4)))))) = some (r1, r2) := h
 clear h
 obtain ⟨ji6, hji6⟩ : ∃ j_ : Int, (mn (wrap64 ((wrap64 (a1 - a2)) * a3)) (wrap64 ((wrap64 (a1 - a2)) * a4))) = j_ := ⟨_, rfl⟩
 replace H : (some (wrap64 ((wrap64 (a0 - a2)) + (ji6)), wrap64 ((wrap64 (a0 + a2)) + (mx (wrap64 ((wrap64 (a1 + a2)) * a3)) (wrap64 ((wrap64 (a1 + a2)) * a4)))))) = some (r1, r2) := by first | (rw [hji6] at H; exact H) | (simp only [hji6] at H ⊢; exact H)
 have hji6_ : (if (wrap64 ((wrap64 (a1 - a2)) * a4)) < (wrap64 ((wrap64 (a1 - a2)) * a3)) then (wrap64 ((wrap64 (a1 - a2)) * a4)) else (wrap64 ((wrap64 (a1 - a2)) * a3))) = ji6 := hji6
 obtain ⟨ji7, hji7⟩ : ∃ j_ : Int, (mx (wrap64 ((wrap64 (a1 + a2)) * a3)) (wrap64 ((wrap64 (a1 + a2)) * a4))) = j_ := ⟨_, rfl⟩
 replace H : (some (wrap64 ((wrap64 (a0 - a2)) + (ji6)), wrap64 ((wrap64 (a0 + a2)) + (ji7)))) = some (r1, r2) := by first | (rw [hji7] at H; exact H) | (simp only [hji7] at H ⊢; exact H)
 have hji7_ : (if (wrap64 ((wrap64 (a1 + a2)) * a3)) < (wrap64 ((wrap64 (a1 + a2)) * a4)) then (wrap64 ((wrap64 (a1 + a2)) * a4)) else (wrap64 ((wrap64 (a1 + a2)) * a3))) = ji7 := hji7
 simp only [Option.some.injEq, Prod.mk.injEq] at H
 obtain ⟨rfl, rfl⟩ := H
 go_enter Try.func47, Try.ntmps47
 go_wp2
 go_ret2
 exact ⟨by first | rfl | (simp [errW_none, errW_some] <;> rfl) | (simp only [← hji6, ← hji7]; first | rfl | (simp [errW_none, errW_some] <;> rfl)) | (simp [*, errW_none, errW_some] <;> rfl), by repeat (first | (with_reducible first | exact HB.out | apply below_alloc | apply pw_below_drewN | apply below_drew1) | exact HB.out)⟩
/-! ### box_Right: function 48 -/
def box_Right.f (a0_0 : Int) (a0_1 : Int) (a0_2 : Int) (a0_3 : Int) : Option (Bool) := (point_Right.f a0_0 a0_1).bind fun t407 => (if t407 = true then ((point_Right.f a0_2 a0_3).bind fun t408 => (if t408 = true then (if a0_0 ≤ a0_2 then (some (decide (a0_1 ≤ a0_3))) else (some false)) else (some false))) else (some false))
set_option maxHeartbeats 8000000 in
set_option maxRecDepth 100000 in
theorem box_Right.calls (a0_0 : Int) (a0_1 : Int) (a0_2 : Int) (a0_3 : Int) (r : Bool) (w : World) (h : box_Right.f a0_0 a0_1 a0_2 a0_3 = some r) :
  Calls Try.prog 48 #[.agg #[.int .i64 a0_0, .int .i64 a0_1, .int .i64 a0_2, .int .i64 a0_3]] w fun e w' => e = .returned (.bool r) ∧ Below w.heap.size w w' := by
 have hu42 := Try.underlying42
 have hu31 := Try.underlying31
 have HB := bA (Below.refl w.heap.size w)
 have H : ((point_Right.f a0_0 a0_1).bind fun t407 => (if t407 = true then ((point_Right.f a0_2 a0_3).bind fun t408 => (if t408 = true then (if a0_0 ≤ a0_2 then (some (decide (a0_1 ≤ a0_3))) else (some false)) else (some false))) else (some false))) = some r := h
 clear h
 replace H := Option.bind_eq_some_iff.mp H
 obtain ⟨t407, A20, H⟩ := H
 replace H : (if t407 = true then ((point_Right.f a0_2 a0_3).bind fun t408 => (if t408 = true then (if a0_0 ≤ a0_2 then (some (decide (a0_1 ≤ a0_3))) else (some false)) else (some false))) else (some false)) = some r := H
 have A2 := bA A20
 clear A20
 by_cases c3 : t407 = true
 subst c3
 rw [if_pos rfl] at H
 replace H := Option.bind_eq_some_iff.mp H
 obtain ⟨t408, A40, H⟩ := H
 replace H : (if t408 = true then (if a0_0 ≤ a0_2 then (some (decide (a0_1 ≤ a0_3))) else (some false)) else (some false)) = some r := H
 have A4 := bA A40
 clear A40
 by_cases c5 : t408 = true
 subst c5
 rw [if_pos rfl] at H
 by_cases c6 : a0_0 ≤ a0_2
 rw [if_pos c6] at H
 have c6b0 : decide (a0_0 ≤ a0_2) = true := decide_eq_true c6
 clear c6
 obtain rfl := Option.some.inj H
 rotate_left
 rw [if_neg c6] at H
 have c6b0 : decide (a0_0 ≤ a0_2) = false := decide_eq_false c6
 clear c6
 obtain rfl := Option.some.inj H
 rotate_left
 replace c5 := Bool.eq_false_iff.mpr c5
 subst c5
 rw [if_neg (show ¬ (false = true) by decide)] at H
 obtain rfl := Option.some.inj H
 rotate_left
 replace c3 := Bool.eq_false_iff.mpr c3
 subst c3
 rw [if_neg (show ¬ (false = true) by decide)] at H
 obtain rfl := Option.some.inj H
 rotate_left
 all_goals go_enter Try.func48, Try.ntmps48
 all_goals go_wp2_with (first | ((with_reducible refine gate_dst (N := 1) rfl ?_); refine bE (N := 1) (cs := #[.int .i64 a0_0, .int .i64 a0_1, .int .i64 a0_2, .int .i64 a0_3]) (t := 42) ?_; intro gb406 hg wz0 hbox hb; have n0_ := bA (bS hb); have n1_ := bA (hbox); have n2_ := bA ((bZ hg : w.heap.size ≤ gb406)); have n3_ := bA ((bZ hg : w.heap.size ≤ gb406)); clear HB; have HB := n0_; have BK406 := n1_; have GW406 := n2_; have GE406 := n3_; clear n0_ n1_ n2_ n3_; clear hb hbox hg; have hz1 : wz0.cell? ⟨gb406, 0, none⟩ = some (.int .i64 a0_0) := (blk_cell BK406.out 0).trans rfl; have hz2 : wz0.cell? ⟨gb406, 1, none⟩ = some (.int .i64 a0_1) := (blk_cell BK406.out 1).trans rfl; have hz3 : wz0.cell? ⟨gb406, 2, none⟩ = some (.int .i64 a0_2) := (blk_cell BK406.out 2).trans rfl; have hz4 : wz0.cell? ⟨gb406, 3, none⟩ = some (.int .i64 a0_3) := (blk_cell BK406.out 3).trans rfl; have hz5 := blk_frozen BK406.out 0; have hz6 := blk_frozen BK406.out 1; have hz7 := blk_frozen BK406.out 2; have hz8 := blk_frozen BK406.out 3) | ((first | ((with_reducible refine gate_callee (f := 16) rfl ?_); refine bC (some 5) Try.func16 #[.agg #[.int .i64 a0_0, .int .i64 a0_1]] ?_) | go_at_call 16); (with_reducible refine (point_Right.calls a0_0 a0_1 true _ A2.out).mono ?_); rintro e wz1 ⟨rfl, hb⟩; (first | refine ⟨_, rfl, ?_⟩ | skip); have n0_ := bA (bB BK406 hb); have n1_ := bA (bS hb); clear BK406; clear HB; have BK406 := n0_; have HB := n1_; clear n0_ n1_; (try clear hb); (try clear hb2); (try clear hk); (try clear hi); have hz9 : wz1.cell? ⟨gb406, 0, none⟩ = some (.int .i64 a0_0) := (blk_cell BK406.out 0).trans rfl; have hz10 : wz1.cell? ⟨gb406, 1, none⟩ = some (.int .i64 a0_1) := (blk_cell BK406.out 1).trans rfl; have hz11 : wz1.cell? ⟨gb406, 2, none⟩ = some (.int .i64 a0_2) := (blk_cell BK406.out 2).trans rfl; have hz12 : wz1.cell? ⟨gb406, 3, none⟩ = some (.int .i64 a0_3) := (blk_cell BK406.out 3).trans rfl; have hz5 := blk_frozen BK406.out 0; have hz6 := blk_frozen BK406.out 1; have hz7 := blk_frozen BK406.out 2; have hz8 := blk_frozen BK406.out 3) | (go_at_call 16; (with_reducible refine (point_Right.calls a0_2 a0_3 true _ A4.out).mono ?_); rintro e wz2 ⟨rfl, hb⟩; have n0_ := bA (bB BK406 hb); have n1_ := bA (bS hb); clear BK406; clear HB; have BK406 := n0_; have HB := n1_; clear n0_ n1_; (try clear hb); (try clear hb2); (try clear hk); (try clear hi); have hz13 : wz2.cell? ⟨gb406, 0, none⟩ = some (.int .i64 a0_0) := (blk_cell BK406.out 0).trans rfl; have hz14 : wz2.cell? ⟨gb406, 1, none⟩ = some (.int .i64 a0_1) := (blk_cell BK406.out 1).trans rfl; have hz15 : wz2.cell? ⟨gb406, 2, none⟩ = some (.int .i64 a0_2) := (blk_cell BK406.out 2).trans rfl; have hz16 : wz2.cell? ⟨gb406, 3, none⟩ = some (.int .i64 a0_3) := (blk_cell BK406.out 3).trans rfl; have hz5 := blk_frozen BK406.out 0; have hz6 := blk_frozen BK406.out 1; have hz7 := blk_frozen BK406.out 2; have hz8 := blk_frozen BK406.out 3) | (go_at_call 16; (with_reducible refine (point_Right.calls a0_2 a0_3 false _ A4.out).mono ?_); rintro e wz2 ⟨rfl, hb⟩; have n0_ := bA (bB BK406 hb); have n1_ := bA (bS hb); clear BK406; clear HB; have BK406 := n0_; have HB := n1_; clear n0_ n1_; (try clear hb); (try clear hb2); (try clear hk); (try clear hi)) | ((first | ((with_reducible refine gate_callee (f := 16) rfl ?_); refine bC (some 5) Try.func16 #[.agg #[.int .i64 a0_0, .int .i64 a0_1]] ?_) | go_at_call 16); (with_reducible refine (point_Right.calls a0_0 a0_1 false _ A2.out).mono ?_); rintro e wz1 ⟨rfl, hb⟩; (first | refine ⟨_, rfl, ?_⟩ | skip); have n0_ := bA (bB BK406 hb); have n1_ := bA (bS hb); clear BK406; clear HB; have BK406 := n0_; have HB := n1_; clear n0_ n1_; (try clear hb); (try clear hb2); (try clear hk); (try clear hi)))
 all_goals (go_ret; exact bF)
/-! ### impact_Box: function 25 -/
def impact_Box.j0 : Nat → Int → Int → Int → Bool → Int → Int → Int → Int → Int → Int → Int → Int → Int → Int → Int → Int → Option (Int × Int × Int × Int × Bool)
 | 0, _, _, _, _, _, _, _, _, _, _, _, _, _, _, _, _ => none
 | k + 1, x2, x8, x9, x26, x410000, x410001, x410002, x410003, x410004, x410005, x410006, x410007, x411000, x411001, x411002, x411003 => if x26 = true then (some (x411000, x411001, x411002, x411003, false)) else ((impact_side.f x410002 x410005 x2 x8 x9).bind fun bt415 => ((impact_side.f x410003 x410006 x2 x8 x9).bind fun bt417 => ((box_Right.f bt415.1 bt417.1 bt415.2 bt417.2).bind fun t419 => (some (bt415.1, bt417.1, bt415.2, bt417.2, t419)))))
def impact_Box.f (k : Nat) (a0_0 : Int) (a0_1 : Int) (a0_2 : Int) (a0_3 : Int) (a0_4 : Int) (a0_5 : Int) (a0_6 : Int) (a0_7 : Int) (a1 : Int) (a2 : Int) : Option (Int × Int × Int × Int × Bool) := (fall_Span.f k a0_4 a0_7 a1 a2).bind fun bt411 => (if bt411.2.2 = true then ((impact_may.f k a0_0 a0_1 a0_2 a0_3 a0_4 a0_5 a0_6 a0_7).bind fun t414 => (impact_Box.j0 k a2 bt411.1 bt411.2.1 (!t414) a0_0 a0_1 a0_2 a0_3 a0_4 a0_5 a0_6 a0_7 0 0 0 0)) else (impact_Box.j0 k a2 bt411.1 bt411.2.1 true a0_0 a0_1 a0_2 a0_3 a0_4 a0_5 a0_6 a0_7 0 0 0 0))
theorem impact_Box.mono_l : ∀ k, (∀ y0 y1 y2 y3 y4 y5 y6 y7 y8 y9 y10 y11 y12 y13 y14 y15, LeO (impact_Box.j0 k y0 y1 y2 y3 y4 y5 y6 y7 y8 y9 y10 y11 y12 y13 y14 y15) (impact_Box.j0 (k + 1) y0 y1 y2 y3 y4 y5 y6 y7 y8 y9 y10 y11 y12 y13 y14 y15))
 | 0 => fun _ _ _ _ _ _ _ _ _ _ _ _ _ _ _ _ r h => by simp [impact_Box.j0] at h
 | k + 1 => by
  have ih0 := impact_Box.mono_l k
  ·intro y0 y1 y2 y3 y4 y5 y6 y7 y8 y9 y10 y11 y12 y13 y14 y15
   unfold impact_Box.j0
   repeat' first
   | (with_reducible exact ih0 _ _ _ _ _ _ _ _ _ _ _ _ _ _ _ _)
   | (with_reducible exact fall_Span.mono _ _ _ _ _)
   | (with_reducible exact impact_may.mono _ _ _ _ _ _ _ _ _)
   | (with_reducible exact LeO.refl _)
   | (with_reducible exact LeO.none _)
   | (with_reducible refine LeO.ite ?_ ?_)
   | (with_reducible refine LeO.bind ?_ (fun _ => ?_))
   | exact ih0 _ _ _ _ _ _ _ _ _ _ _ _ _ _ _ _
   | exact fall_Span.mono _ _ _ _ _
   | exact impact_may.mono _ _ _ _ _ _ _ _ _
   | exact LeO.none _
   | refine LeO.ite ?_ ?_
   | refine LeO.bind ?_ (fun _ => ?_)
theorem impact_Box.mono : ∀ a0 a1 a2 a3 a4 a5 a6 a7 a8 a9 k, LeO (impact_Box.f k a0 a1 a2 a3 a4 a5 a6 a7 a8 a9) (impact_Box.f (k + 1) a0 a1 a2 a3 a4 a5 a6 a7 a8 a9) := by
 intro a0 a1 a2 a3 a4 a5 a6 a7 a8 a9 k
 have ih0 := impact_Box.mono_l k
 unfold impact_Box.f
 repeat' first
   | (with_reducible exact ih0 _ _ _ _ _ _ _ _ _ _ _ _ _ _ _ _)
   | (with_reducible exact fall_Span.mono _ _ _ _ _)
   | (with_reducible exact impact_may.mono _ _ _ _ _ _ _ _ _)
   | (with_reducible exact LeO.refl _)
   | (with_reducible exact LeO.none _)
   | (with_reducible refine LeO.ite ?_ ?_)
   | (with_reducible refine LeO.bind ?_ (fun _ => ?_))
   | exact ih0 _ _ _ _ _ _ _ _ _ _ _ _ _ _ _ _
   | exact fall_Span.mono _ _ _ _ _
   | exact impact_may.mono _ _ _ _ _ _ _ _ _
   | exact LeO.none _
   | refine LeO.ite ?_ ?_
   | refine LeO.bind ?_ (fun _ => ?_)
set_option maxHeartbeats 8000000 in
set_option maxRecDepth 100000 in
theorem impact_Box.calls (k : Nat) (a0_0 : Int) (a0_1 : Int) (a0_2 : Int) (a0_3 : Int) (a0_4 : Int) (a0_5 : Int) (a0_6 : Int) (a0_7 : Int) (a1 : Int) (a2 : Int) (r1 : Int) (r2 : Int) (r3 : Int) (r4 : Int) (r5 : Bool) (w : World) (h : impact_Box.f k a0_0 a0_1 a0_2 a0_3 a0_4 a0_5 a0_6 a0_7 a1 a2 = some (r1, r2, r3, r4, r5)) :
  Calls Try.prog 25 #[.agg #[.int .i64 a0_0, .int .i64 a0_1, .int .i64 a0_2, .int .i64 a0_3, .int .i64 a0_4, .int .i64 a0_5, .int .i64 a0_6, .int .i64 a0_7], .int .i64 a1, .int .i64 a2] w fun e w' => e = .returned (.tuple #[.agg #[.int .i64 r1, .int .i64 r2, .int .i64 r3, .int .i64 r4], .bool r5]) ∧ Below w.heap.size w w' := by
 have hu37 := Try.underlying37
 have hu42 := Try.underlying42
 have HB := bA (Below.refl w.heap.size w)
 have H : ((fall_Span.f k a0_4 a0_7 a1 a2).bind fun bt411 => (if bt411.2.2 = true then ((impact_may.f k a0_0 a0_1 a0_2 a0_3 a0_4 a0_5 a0_6 a0_7).bind fun t414 => (impact_Box.j0 k a2 bt411.1 bt411.2.1 (!t414) a0_0 a0_1 a0_2 a0_3 a0_4 a0_5 a0_6 a0_7 0 0 0 0)) else (impact_Box.j0 k a2 bt411.1 bt411.2.1 true a0_0 a0_1 a0_2 a0_3 a0_4 a0_5 a0_6 a0_7 0 0 0 0))) = some (r1, r2, r3, r4, r5) := h
 clear h
 replace H := Option.bind_eq_some_iff.mp H
 obtain ⟨⟨t411, t412, t413⟩, A40, H⟩ := H
 replace H : (if t413 = true then ((impact_may.f k a0_0 a0_1 a0_2 a0_3 a0_4 a0_5 a0_6 a0_7).bind fun t414 => (impact_Box.j0 k a2 t411 t412 (!t414) a0_0 a0_1 a0_2 a0_3 a0_4 a0_5 a0_6 a0_7 0 0 0 0)) else (impact_Box.j0 k a2 t411 t412 true a0_0 a0_1 a0_2 a0_3 a0_4 a0_5 a0_6 a0_7 0 0 0 0)) = some (r1, r2, r3, r4, r5) := H
 have A4 := bA A40
 clear A40
 have HC5 := bA H
 clear H
 go_enter Try.func25, Try.ntmps25
 go_upto_region 2 with (first | ((with_reducible refine gate_dst (N := 3) rfl ?_); refine bE (N := 3) (cs := #[.int .i64 a0_0, .int .i64 a0_1, .int .i64 a0_2, .int .i64 a0_3, .int .i64 a0_4, .int .i64 a0_5, .int .i64 a0_6, .int .i64 a0_7]) (t := 37) ?_; intro gb409 hg w6 hbox hb; have n0_ := bA (bS hb); have n1_ := bA (hbox); have n2_ := bA ((bZ hg : w.heap.size ≤ gb409)); have n3_ := bA ((bZ hg : w.heap.size ≤ gb409)); clear HB; have HB := n0_; have BK409 := n1_; have GW409 := n2_; have GE409 := n3_; clear n0_ n1_ n2_ n3_; clear hb hbox hg) | ((with_reducible refine gate_dst (N := 6) rfl ?_); refine bE (N := 6) (cs := #[.int .i64 0, .int .i64 0, .int .i64 0, .int .i64 0]) (t := 42) ?_; intro gb410 hg w7 hbox hb; have n0_ := bA (bB BK409 hb); have n1_ := bA (bS hb); have n2_ := bA (hbox); have n3_ := bA ((bZ hg : w.heap.size ≤ gb410)); have n4_ := bA ((bZ hg : w.heap.size ≤ gb410)); have n5_ := bA ((bL BK409 hg : gb409 ≠ gb410)); have n6_ := bA ((bG BK409 hg : gb410 ≠ gb409)); clear BK409; clear HB; have BK409 := n0_; have HB := n1_; have BK410 := n2_; have GW410 := n3_; have GE410 := n4_; have NB409_410 := n5_; have NB410_409 := n6_; clear n0_ n1_ n2_ n3_ n4_ n5_ n6_; clear hb hbox hg; have hnb8 := NB409_410.out; have hnc8 := NB410_409.out; have hcz9_0 : w7.cell? ⟨gb409, 0, none⟩ = some (.int .i64 a0_0) := (blk_cell BK409.out 0).trans rfl; have hcz9_1 : w7.cell? ⟨gb409, 1, none⟩ = some (.int .i64 a0_1) := (blk_cell BK409.out 1).trans rfl; have hcz9_2 : w7.cell? ⟨gb409, 2, none⟩ = some (.int .i64 a0_2) := (blk_cell BK409.out 2).trans rfl; have hcz9_3 : w7.cell? ⟨gb409, 3, none⟩ = some (.int .i64 a0_3) := (blk_cell BK409.out 3).trans rfl; have hcz9_4 : w7.cell? ⟨gb409, 4, none⟩ = some (.int .i64 a0_4) := (blk_cell BK409.out 4).trans rfl; have hcz9_5 : w7.cell? ⟨gb409, 5, none⟩ = some (.int .i64 a0_5) := (blk_cell BK409.out 5).trans rfl; have hcz9_6 : w7.cell? ⟨gb409, 6, none⟩ = some (.int .i64 a0_6) := (blk_cell BK409.out 6).trans rfl; have hcz9_7 : w7.cell? ⟨gb409, 7, none⟩ = some (.int .i64 a0_7) := (blk_cell BK409.out 7).trans rfl; have hfz9_0 := blk_frozen BK409.out 0; have hfz9_1 := blk_frozen BK409.out 1; have hfz9_2 := blk_frozen BK409.out 2; have hfz9_3 := blk_frozen BK409.out 3; have hfz9_4 := blk_frozen BK409.out 4; have hfz9_5 := blk_frozen BK409.out 5; have hfz9_6 := blk_frozen BK409.out 6; have hfz9_7 := blk_frozen BK409.out 7) | ((first | ((with_reducible refine gate_callee (f := 34) rfl ?_); refine bC (some 17) Try.func34 #[.int .i64 a0_4, .int .i64 a0_7, .int .i64 a1, .int .i64 a2] ?_) | go_at_call 34); (with_reducible refine (fall_Span.calls k a0_4 a0_7 a1 a2 t411 t412 t413 _ A4.out).mono ?_); rintro e w10 ⟨rfl, hb⟩; (first | refine ⟨_, rfl, ?_⟩ | skip); have n0_ := bA (bB BK409 hb); have n1_ := bA (bB BK410 hb); have n2_ := bA (bS hb); clear BK409; clear BK410; clear HB; have BK409 := n0_; have BK410 := n1_; have HB := n2_; clear n0_ n1_ n2_; (try clear hb); (try clear hb2); (try clear hk); (try clear hi)))
 (try simp only [Act.put, List.setIfInBounds_toArray, List.set_cons_zero, List.set_cons_succ])
 go_cut [26] (fun v26 wc => ∃ (kq : Nat) (x26_4 : Bool) (x410000_4 : Int) (x410001_4 : Int) (x410002_4 : Int) (x410003_4 : Int) (x410004_4 : Int) (x410005_4 : Int) (x410006_4 : Int) (x410007_4 : Int), v26 = .bool x26_4 ∧ Aside0 (impact_Box.j0 kq a2 t411 t412 x26_4 x410000_4 x410001_4 x410002_4 x410003_4 x410004_4 x410005_4 x410006_4 x410007_4 0 0 0 0 = some (r1, r2, r3, r4, r5)) ∧ Aside0 (kq ≤ k) ∧ Aside0 (wc.heap[gb409]? = some (.cells #[.int .i64 x410000_4, .int .i64 x410001_4, .int .i64 x410002_4, .int .i64 x410003_4, .int .i64 x410004_4, .int .i64 x410005_4, .int .i64 x410006_4, .int .i64 x410007_4] 37 (0, 0))) ∧ Aside0 (wc.heap[gb410]? = some (.cells #[.int .i64 0, .int .i64 0, .int .i64 0, .int .i64 0] 42 (0, 0))) ∧ Aside0 (Below w.heap.size w wc))
 case first =>
  have H := HC5.out
  clear HC5
  by_cases c11 : t413 = true
  subst c11
  rw [if_pos rfl] at H
  replace H := Option.bind_eq_some_iff.mp H
  obtain ⟨t414, A120, H⟩ := H
  replace H : (impact_Box.j0 k a2 t411 t412 (!t414) a0_0 a0_1 a0_2 a0_3 a0_4 a0_5 a0_6 a0_7 0 0 0 0) = some (r1, r2, r3, r4, r5) := H
  have A12 := bA A120
  clear A120
  have H' := bA H
  clear H
  rotate_left
  replace c11 := Bool.eq_false_iff.mpr c11
  subst c11
  rw [if_neg (show ¬ (false = true) by decide)] at H
  have H' := bA H
  clear H
  rotate_left
  all_goals go_wp2_with (first | (go_at_call 46; (with_reducible refine (impact_may.calls k gb409 a0_0 a0_1 a0_2 a0_3 a0_4 a0_5 a0_6 a0_7 t414 _ ?side1 A12.out).mono ?_); (case side1 => exact (by (with_reducible repeat (first | refine blk_drewN ?_ _ | refine blk_drew ?_ | refine blk_alloc ?_ _)); exact BK409.out)); rintro e wz0 ⟨rfl, hb⟩; have n0_ := bA (bB BK409 hb); have n1_ := bA (bB BK410 hb); have n2_ := bA (bS hb); clear BK409; clear BK410; clear HB; have BK409 := n0_; have BK410 := n1_; have HB := n2_; clear n0_ n1_ n2_; (try clear hb); (try clear hb2); (try clear hk); (try clear hi)))
  ·go_meet
   case rel => exact ⟨_, (!t414), (a0_0), (a0_1), (a0_2), (a0_3), (a0_4), (a0_5), (a0_6), (a0_7), (by first | rfl | (simp; done) | (simp [*]; done)), H', ⟨by first | omega | exact Nat.le_refl _⟩, ⟨by (with_reducible repeat (first | refine blk_drewN ?_ _ | refine blk_drew ?_ | refine blk_alloc ?_ _)); exact BK409.out⟩, ⟨by (with_reducible repeat (first | refine blk_drewN ?_ _ | refine blk_drew ?_ | refine blk_alloc ?_ _)); exact BK410.out⟩, ⟨bX⟩⟩
  ·go_meet
   case rel => exact ⟨_, (true), (a0_0), (a0_1), (a0_2), (a0_3), (a0_4), (a0_5), (a0_6), (a0_7), (by first | rfl | (simp; done) | (simp [*]; done)), H', ⟨by first | omega | exact Nat.le_refl _⟩, ⟨by (with_reducible repeat (first | refine blk_drewN ?_ _ | refine blk_drew ?_ | refine blk_alloc ?_ _)); exact BK409.out⟩, ⟨by (with_reducible repeat (first | refine blk_drewN ?_ _ | refine blk_drew ?_ | refine blk_alloc ?_ _)); exact BK410.out⟩, ⟨bX⟩⟩
 case rest =>
  clear HC5
  try clear c1
  try clear c2
  try clear p2
  try clear c3
  try clear c8
  try clear c11
  try clear hcz9_0
  try clear hcz9_1
  try clear hcz9_2
  try clear hcz9_3
  try clear hcz9_4
  try clear hcz9_5
  try clear hcz9_6
  try clear hcz9_7
  try clear hfz9_0
  try clear hfz9_1
  try clear hfz9_2
  try clear hfz9_3
  try clear hfz9_4
  try clear hfz9_5
  try clear hfz9_6
  try clear hfz9_7
  obtain ⟨kq, x26_4, x410000_4, x410001_4, x410002_4, x410003_4, x410004_4, x410005_4, x410006_4, x410007_4, rfl, HA, HJ4, BK409, BK410, HB⟩ := hcut
  cases kq with
  | zero => exact absurd HA.out (by simp [impact_Box.j0])
  | succ kj4 =>
   have H := HA.out
   clear HA
   simp only [impact_Box.j0] at H
   by_cases c14 : x26_4 = true
   ·subst c14
    rw [if_pos rfl] at H
    simp only [Option.some.injEq, Prod.mk.injEq] at H
    obtain ⟨rfl, rfl, rfl, rfl, rfl⟩ := H
    have hnb15 := NB410_409.out
    have hnc15 := NB409_410.out
    have hcz16_0 : wc.cell? ⟨gb410, 0, none⟩ = some (.int .i64 0) := (blk_cell BK410.out 0).trans rfl
    have hcz16_1 : wc.cell? ⟨gb410, 1, none⟩ = some (.int .i64 0) := (blk_cell BK410.out 1).trans rfl
    have hcz16_2 : wc.cell? ⟨gb410, 2, none⟩ = some (.int .i64 0) := (blk_cell BK410.out 2).trans rfl
    have hcz16_3 : wc.cell? ⟨gb410, 3, none⟩ = some (.int .i64 0) := (blk_cell BK410.out 3).trans rfl
    have hfz16_0 := blk_frozen BK410.out 0
    have hfz16_1 := blk_frozen BK410.out 1
    have hfz16_2 := blk_frozen BK410.out 2
    have hfz16_3 := blk_frozen BK410.out 3
    go_wp2
    refine bodyPost_ret (results_ct rfl _ _ gb410 42 #[.int .i64 0, .int .i64 0, .int .i64 0, .int .i64 0] (0, 0) _ rfl (by (with_reducible repeat (first | refine blk_drewN ?_ _ | refine blk_drew ?_ | refine blk_alloc ?_ _)); refine blk_put (cs := #[.int .i64 0, .int .i64 0, .int .i64 0, .int .i64 0]) ?_ 3 _ rfl; (with_reducible repeat (first | refine blk_drewN ?_ _ | refine blk_drew ?_ | refine blk_alloc ?_ _)); refine blk_put (cs := #[.int .i64 0, .int .i64 0, .int .i64 0, .int .i64 0]) ?_ 2 _ rfl; (with_reducible repeat (first | refine blk_drewN ?_ _ | refine blk_drew ?_ | refine blk_alloc ?_ _)); refine blk_put (cs := #[.int .i64 0, .int .i64 0, .int .i64 0, .int .i64 0]) ?_ 1 _ rfl; (with_reducible repeat (first | refine blk_drewN ?_ _ | refine blk_drew ?_ | refine blk_alloc ?_ _)); refine blk_put (cs := #[.int .i64 0, .int .i64 0, .int .i64 0, .int .i64 0]) ?_ 0 _ rfl; (with_reducible repeat (first | refine blk_drewN ?_ _ | refine blk_drew ?_ | refine blk_alloc ?_ _)); exact BK410.out) Try.underlying42 rfl (by kernel_rfl)) rfl ?_
    exact bF
   ·replace c14 := Bool.eq_false_iff.mpr c14
    subst c14
    rw [if_neg (show ¬ (false = true) by decide)] at H
    replace H := Option.bind_eq_some_iff.mp H
    obtain ⟨⟨t415, t416⟩, A170, H⟩ := H
    replace H : ((impact_side.f x410003_4 x410006_4 a2 t411 t412).bind fun bt417 => ((box_Right.f t415 bt417.1 t416 bt417.2).bind fun t419 => (some (t415, bt417.1, t416, bt417.2, t419)))) = some (r1, r2, r3, r4, r5) := H
    have A17 := bA A170
    clear A170
    replace H := Option.bind_eq_some_iff.mp H
    obtain ⟨⟨t417, t418⟩, A180, H⟩ := H
    replace H : ((box_Right.f t415 t417 t416 t418).bind fun t419 => (some (t415, t417, t416, t418, t419))) = some (r1, r2, r3, r4, r5) := H
    have A18 := bA A180
    clear A180
    replace H := Option.bind_eq_some_iff.mp H
    obtain ⟨t419, A190, H⟩ := H
    replace H : (some (t415, t417, t416, t418, t419)) = some (r1, r2, r3, r4, r5) := H
    have A19 := bA A190
    clear A190
    simp only [Option.some.injEq, Prod.mk.injEq] at H
    obtain ⟨rfl, rfl, rfl, rfl, rfl⟩ := H
    have hnb20 := NB409_410.out
    have hnc20 := NB410_409.out
    have hcz21_0 : wc.cell? ⟨gb409, 0, none⟩ = some (.int .i64 x410000_4) := (blk_cell BK409.out 0).trans rfl
    have hcz21_1 : wc.cell? ⟨gb409, 1, none⟩ = some (.int .i64 x410001_4) := (blk_cell BK409.out 1).trans rfl
    have hcz21_2 : wc.cell? ⟨gb409, 2, none⟩ = some (.int .i64 x410002_4) := (blk_cell BK409.out 2).trans rfl
    have hcz21_3 : wc.cell? ⟨gb409, 3, none⟩ = some (.int .i64 x410003_4) := (blk_cell BK409.out 3).trans rfl
    have hcz21_4 : wc.cell? ⟨gb409, 4, none⟩ = some (.int .i64 x410004_4) := (blk_cell BK409.out 4).trans rfl
    have hcz21_5 : wc.cell? ⟨gb409, 5, none⟩ = some (.int .i64 x410005_4) := (blk_cell BK409.out 5).trans rfl
    have hcz21_6 : wc.cell? ⟨gb409, 6, none⟩ = some (.int .i64 x410006_4) := (blk_cell BK409.out 6).trans rfl
    have hcz21_7 : wc.cell? ⟨gb409, 7, none⟩ = some (.int .i64 x410007_4) := (blk_cell BK409.out 7).trans rfl
    have hfz21_0 := blk_frozen BK409.out 0
    have hfz21_1 := blk_frozen BK409.out 1
    have hfz21_2 := blk_frozen BK409.out 2
    have hfz21_3 := blk_frozen BK409.out 3
    have hfz21_4 := blk_frozen BK409.out 4
    have hfz21_5 := blk_frozen BK409.out 5
    have hfz21_6 := blk_frozen BK409.out 6
    have hfz21_7 := blk_frozen BK409.out 7
    try go_wp2_with (first | ((first | ((with_reducible refine gate_callee (f := 47) rfl ?_); refine bC (some 36) Try.func47 #[.int .i64 x410002_4, .int .i64 x410005_4, .int .i64 a2, .int .i64 t411, .int .i64 t412] ?_) | go_at_call 47); (with_reducible refine (impact_side.calls x410002_4 x410005_4 a2 t411 t412 t415 t416 _ A17.out).mono ?_); rintro e w22 ⟨rfl, hb⟩; (first | refine ⟨_, rfl, ?_⟩ | skip); have n0_ := bA (bB BK409 hb); have n1_ := bA (bB BK410 hb); have n2_ := bA (bS hb); clear BK409; clear BK410; clear HB; have BK409 := n0_; have BK410 := n1_; have HB := n2_; clear n0_ n1_ n2_; (try clear hb); (try clear hb2); (try clear hk); (try clear hi); have hcz23_0 : w22.cell? ⟨gb410, 0, none⟩ = some (.int .i64 0) := (blk_cell BK410.out 0).trans rfl; have hcz23_1 : w22.cell? ⟨gb410, 1, none⟩ = some (.int .i64 0) := (blk_cell BK410.out 1).trans rfl; have hcz23_2 : w22.cell? ⟨gb410, 2, none⟩ = some (.int .i64 0) := (blk_cell BK410.out 2).trans rfl; have hcz23_3 : w22.cell? ⟨gb410, 3, none⟩ = some (.int .i64 0) := (blk_cell BK410.out 3).trans rfl; have hfz23_0 := blk_frozen BK410.out 0; have hfz23_1 := blk_frozen BK410.out 1; have hfz23_2 := blk_frozen BK410.out 2; have hfz23_3 := blk_frozen BK410.out 3; have hcz24_0 : w22.cell? ⟨gb409, 0, none⟩ = some (.int .i64 x410000_4) := (blk_cell BK409.out 0).trans rfl; have hcz24_1 : w22.cell? ⟨gb409, 1, none⟩ = some (.int .i64 x410001_4) := (blk_cell BK409.out 1).trans rfl; have hcz24_2 : w22.cell? ⟨gb409, 2, none⟩ = some (.int .i64 x410002_4) := (blk_cell BK409.out 2).trans rfl; have hcz24_3 : w22.cell? ⟨gb409, 3, none⟩ = some (.int .i64 x410003_4) := (blk_cell BK409.out 3).trans rfl; have hcz24_4 : w22.cell? ⟨gb409, 4, none⟩ = some (.int .i64 x410004_4) := (blk_cell BK409.out 4).trans rfl; have hcz24_5 : w22.cell? ⟨gb409, 5, none⟩ = some (.int .i64 x410005_4) := (blk_cell BK409.out 5).trans rfl; have hcz24_6 : w22.cell? ⟨gb409, 6, none⟩ = some (.int .i64 x410006_4) := (blk_cell BK409.out 6).trans rfl; have hcz24_7 : w22.cell? ⟨gb409, 7, none⟩ = some (.int .i64 x410007_4) := (blk_cell BK409.out 7).trans rfl; have hfz24_0 := blk_frozen BK409.out 0; have hfz24_1 := blk_frozen BK409.out 1; have hfz24_2 := blk_frozen BK409.out 2; have hfz24_3 := blk_frozen BK409.out 3; have hfz24_4 := blk_frozen BK409.out 4; have hfz24_5 := blk_frozen BK409.out 5; have hfz24_6 := blk_frozen BK409.out 6; have hfz24_7 := blk_frozen BK409.out 7) | ((first | ((with_reducible refine gate_callee (f := 47) rfl ?_); refine bC (some 51) Try.func47 #[.int .i64 x410003_4, .int .i64 x410006_4, .int .i64 a2, .int .i64 t411, .int .i64 t412] ?_) | go_at_call 47); (with_reducible refine (impact_side.calls x410003_4 x410006_4 a2 t411 t412 t417 t418 _ A18.out).mono ?_); rintro e w25 ⟨rfl, hb⟩; (first | refine ⟨_, rfl, ?_⟩ | skip); have n0_ := bA (blk_below (g := gb409) (o := .cells #[.int .i64 x410000_4, .int .i64 x410001_4, .int .i64 x410002_4, .int .i64 x410003_4, .int .i64 x410004_4, .int .i64 x410005_4, .int .i64 x410006_4, .int .i64 x410007_4] 37 (0, 0)) (by (with_reducible repeat (first | refine blk_drewN ?_ _ | refine blk_drew ?_ | refine blk_alloc ?_ _)); refine blk_far ?_ NB409_410.out _; (with_reducible repeat (first | refine blk_drewN ?_ _ | refine blk_drew ?_ | refine blk_alloc ?_ _)); refine blk_far ?_ NB409_410.out _; (with_reducible repeat (first | refine blk_drewN ?_ _ | refine blk_drew ?_ | refine blk_alloc ?_ _)); exact BK409.out) hb); have n1_ := bA (blk_below (g := gb410) (o := .cells #[.int .i64 t415, .int .i64 0, .int .i64 t416, .int .i64 0] 42 (0, 0)) (by (with_reducible repeat (first | refine blk_drewN ?_ _ | refine blk_drew ?_ | refine blk_alloc ?_ _)); refine blk_put (cs := #[.int .i64 t415, .int .i64 0, .int .i64 0, .int .i64 0]) ?_ 2 _ rfl; (with_reducible repeat (first | refine blk_drewN ?_ _ | refine blk_drew ?_ | refine blk_alloc ?_ _)); refine blk_put (cs := #[.int .i64 0, .int .i64 0, .int .i64 0, .int .i64 0]) ?_ 0 _ rfl; (with_reducible repeat (first | refine blk_drewN ?_ _ | refine blk_drew ?_ | refine blk_alloc ?_ _)); exact BK410.out) hb); have n2_ := bA (bS hb); clear BK409; clear BK410; clear HB; have BK409 := n0_; have BK410 := n1_; have HB := n2_; clear n0_ n1_ n2_; (try clear hb); (try clear hb2); (try clear hk); (try clear hi); have hcz26_0 : w25.cell? ⟨gb410, 0, none⟩ = some (.int .i64 t415) := (blk_cell BK410.out 0).trans rfl; have hcz26_1 : w25.cell? ⟨gb410, 1, none⟩ = some (.int .i64 0) := (blk_cell BK410.out 1).trans rfl; have hcz26_2 : w25.cell? ⟨gb410, 2, none⟩ = some (.int .i64 t416) := (blk_cell BK410.out 2).trans rfl; have hcz26_3 : w25.cell? ⟨gb410, 3, none⟩ = some (.int .i64 0) := (blk_cell BK410.out 3).trans rfl; have hfz26_0 := blk_frozen BK410.out 0; have hfz26_1 := blk_frozen BK410.out 1; have hfz26_2 := blk_frozen BK410.out 2; have hfz26_3 := blk_frozen BK410.out 3))
    have n0_ : Aside0 (((w25.setCell ⟨gb410, 1, none⟩ (.int .i64 t417)).setCell ⟨gb410, 3, none⟩ (.int .i64 t418)).heap[gb409]? = some (.cells #[.int .i64 x410000_4, .int .i64 x410001_4, .int .i64 x410002_4, .int .i64 x410003_4, .int .i64 x410004_4, .int .i64 x410005_4, .int .i64 x410006_4, .int .i64 x410007_4] 37 (0, 0))) := ⟨by (with_reducible repeat (first | refine blk_drewN ?_ _ | refine blk_drew ?_ | refine blk_alloc ?_ _)); refine blk_far ?_ NB409_410.out _; (with_reducible repeat (first | refine blk_drewN ?_ _ | refine blk_drew ?_ | refine blk_alloc ?_ _)); refine blk_far ?_ NB409_410.out _; (with_reducible repeat (first | refine blk_drewN ?_ _ | refine blk_drew ?_ | refine blk_alloc ?_ _)); exact BK409.out⟩
    have n1_ : Aside0 (((w25.setCell ⟨gb410, 1, none⟩ (.int .i64 t417)).setCell ⟨gb410, 3, none⟩ (.int .i64 t418)).heap[gb410]? = some (.cells #[.int .i64 t415, .int .i64 t417, .int .i64 t416, .int .i64 t418] 42 (0, 0))) := ⟨by (with_reducible repeat (first | refine blk_drewN ?_ _ | refine blk_drew ?_ | refine blk_alloc ?_ _)); refine blk_put (cs := #[.int .i64 t415, .int .i64 t417, .int .i64 t416, .int .i64 0]) ?_ 3 _ rfl; (with_reducible repeat (first | refine blk_drewN ?_ _ | refine blk_drew ?_ | refine blk_alloc ?_ _)); refine blk_put (cs := #[.int .i64 t415, .int .i64 0, .int .i64 t416, .int .i64 0]) ?_ 1 _ rfl; (with_reducible repeat (first | refine blk_drewN ?_ _ | refine blk_drew ?_ | refine blk_alloc ?_ _)); exact BK410.out⟩
    have n2_ : Aside0 (Below w.heap.size w ((w25.setCell ⟨gb410, 1, none⟩ (.int .i64 t417)).setCell ⟨gb410, 3, none⟩ (.int .i64 t418))) := ⟨bX⟩
    (try clear BK409)
    (try clear BK410)
    (try clear HB)
    generalize ((w25.setCell ⟨gb410, 1, none⟩ (.int .i64 t417)).setCell ⟨gb410, 3, none⟩ (.int .i64 t418)) = w27 at n0_ n1_ n2_ ⊢
    have BK409 := n0_
    have BK410 := n1_
    have HB := n2_
    clear n0_ n1_ n2_
    have n0_ := bA (blk_drew BK409.out)
    have n1_ := bA (blk_drew BK410.out)
    have n2_ := bA (below_drew1 HB.out)
    clear BK409
    clear BK410
    clear HB
    have BK409 := n0_
    have BK410 := n1_
    have HB := n2_
    clear n0_ n1_ n2_
    refine start_ (n := 5) (S := fun w' => w'.cell? ⟨gb410, 0, none⟩ = some (.int .i64 t415) ∧ w'.cell? ⟨gb410, 1, none⟩ = some (.int .i64 t417) ∧ w'.cell? ⟨gb410, 2, none⟩ = some (.int .i64 t416) ∧ w'.cell? ⟨gb410, 3, none⟩ = some (.int .i64 t418)) (ds := [3]) #[false, false, false, false, false] (by kernel_rfl) rfl rfl ⟨(blk_cell BK410.out 0).trans rfl, (blk_cell BK410.out 1).trans rfl, (blk_cell BK410.out 2).trans rfl, (blk_cell BK410.out 3).trans rfl⟩ (fun hHeld => ?_)
    generalize w27.drew = w28 at BK409 BK410 HB hHeld ⊢
    refine take_ (i := 0) (N := some 58) (v := ?_) (a' := ?_) #[true, false, false, false, false] rfl rfl (by kernel_rfl) (fun _ _ _ h => h) (Or.inl ⟨by rfl, ?_⟩) hHeld ?_ ?_
    rotate_left
    ·rintro w' ⟨s0, s1, s2, s3⟩
     go_simp
     with_reducible rfl
    rotate_left
    ·simp only [Act.put, List.setIfInBounds_toArray, List.set_cons_zero, List.set_cons_succ, i64_w, i32_w]
     rfl
    refine take_ (i := 1) (N := some 59) (v := ?_) (a' := ?_) #[true, true, false, false, false] rfl rfl (by kernel_rfl) (fun _ _ _ h => h) (Or.inl ⟨by rfl, ?_⟩) hHeld ?_ ?_
    rotate_left
    ·rintro w' ⟨s0, s1, s2, s3⟩
     go_simp
     with_reducible rfl
    rotate_left
    ·simp only [Act.put, List.setIfInBounds_toArray, List.set_cons_zero, List.set_cons_succ, i64_w, i32_w]
     rfl
    refine one_ (i := 2) (N := some 60) #[true, true, true, false, false] rfl rfl (by kernel_rfl) (by decide) (fun K hK => ?_)
    refine goes_ Try.func48 (by kernel_rfl) rfl #[.agg #[.int .i64 t415, .int .i64 t417, .int .i64 t416, .int .i64 t418]] (by rfl) rfl rfl (by (try simp only [List.map_toArray, List.map_cons, List.map_nil]); first | done | rfl | (simp only [List.length_drop, List.length_take]; rfl)) ?_
    with_reducible refine (box_Right.calls t415 t417 t416 t418 t419 _ A19.out).mono ?_
    rintro e w29 ⟨rfl, hb⟩
    refine ⟨_, rfl, ?_⟩
    have n0_ := bA (bB BK409 hb)
    have n1_ := bA (bB BK410 hb)
    have n2_ := bA (bS hb)
    clear BK409
    clear BK410
    clear HB
    have BK409 := n0_
    have BK410 := n1_
    have HB := n2_
    clear n0_ n1_ n2_
    (try clear hb)
    (try clear hb2)
    (try clear hk)
    (try clear hi)
    refine hK.out _ _ ⟨(blk_cell BK410.out 0).trans rfl, (blk_cell BK410.out 1).trans rfl, (blk_cell BK410.out 2).trans rfl, (blk_cell BK410.out 3).trans rfl⟩ (fun hHeld => ?_)
    clear hK K
    refine norm_ (a' := ?_) ?_ ?_
    rotate_left
    ·show Act.put _ (some 60) _ = _
     simp only [Act.put, List.setIfInBounds_toArray, List.set_cons_zero, List.set_cons_succ, i64_w, i32_w]
     rfl
    refine last_ (i := 3) (N := none) #[true, true, true, true, false] rfl rfl (by kernel_rfl) (by decide) (fun K hK => ?_)
    have hs30 : w29.cell? ⟨gb410, 0, none⟩ = some (.int .i64 t415) := (blk_cell BK410.out 0).trans rfl
    have hfs30 := blk_frozen BK410.out 0
    have hns30_0 := NB409_410.out
    have hms30_0 := NB410_409.out
    have hs31 : w29.cell? ⟨gb410, 1, none⟩ = some (.int .i64 t417) := (blk_cell BK410.out 1).trans rfl
    have hfs31 := blk_frozen BK410.out 1
    have hns31_0 := NB409_410.out
    have hms31_0 := NB410_409.out
    have hs32 : w29.cell? ⟨gb410, 2, none⟩ = some (.int .i64 t416) := (blk_cell BK410.out 2).trans rfl
    have hfs32 := blk_frozen BK410.out 2
    have hns32_0 := NB409_410.out
    have hms32_0 := NB410_409.out
    have hs33 : w29.cell? ⟨gb410, 3, none⟩ = some (.int .i64 t418) := (blk_cell BK410.out 3).trans rfl
    have hfs33 := blk_frozen BK410.out 3
    have hns33_0 := NB409_410.out
    have hms33_0 := NB410_409.out
    refine skip_ (w1 := ?_) (by rfl) rfl ?_ ?_
    rotate_left
    ·go_simp
     rfl
    refine hK.out _ _ ?_
    clear hK K
    refine pure_ (i := 4) (N := some 7) (v := ?_) (a' := ?_) #[true, true, true, true, true] rfl rfl (by kernel_rfl) (fun _ _ _ h => h) (Or.inl ⟨by rfl, ?_⟩) ?_ ?_
    rotate_left
    ·intro w'
     go_simp
     with_reducible rfl
    rotate_left
    ·simp only [Act.put, List.setIfInBounds_toArray, List.set_cons_zero, List.set_cons_succ, i64_w, i32_w]
     rfl
    refine done_ (by kernel_rfl) ?_
    try go_wp2
    refine bodyPost_ret (results_ct rfl _ _ gb410 42 #[.int .i64 t415, .int .i64 t417, .int .i64 t416, .int .i64 t418] (0, 0) _ rfl (by (with_reducible repeat (first | refine blk_drewN ?_ _ | refine blk_drew ?_ | refine blk_alloc ?_ _)); refine blk_put (cs := #[.int .i64 t415, .int .i64 t417, .int .i64 t416, .int .i64 t418]) ?_ 3 _ rfl; (with_reducible repeat (first | refine blk_drewN ?_ _ | refine blk_drew ?_ | refine blk_alloc ?_ _)); refine blk_put (cs := #[.int .i64 t415, .int .i64 t417, .int .i64 t416, .int .i64 t418]) ?_ 2 _ rfl; (with_reducible repeat (first | refine blk_drewN ?_ _ | refine blk_drew ?_ | refine blk_alloc ?_ _)); refine blk_put (cs := #[.int .i64 t415, .int .i64 t417, .int .i64 t416, .int .i64 t418]) ?_ 1 _ rfl; (with_reducible repeat (first | refine blk_drewN ?_ _ | refine blk_drew ?_ | refine blk_alloc ?_ _)); refine blk_put (cs := #[.int .i64 t415, .int .i64 t417, .int .i64 t416, .int .i64 t418]) ?_ 0 _ rfl; (with_reducible repeat (first | refine blk_drewN ?_ _ | refine blk_drew ?_ | refine blk_alloc ?_ _)); exact BK410.out) Try.underlying42 rfl (by kernel_rfl)) rfl ?_
    exact bF
end Go.Proofs.Ytlifeghjcgbfnaa.G
