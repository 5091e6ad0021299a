-- Written by a program of this session out of the translation; Lean checks it.
import Derived.Test.YtlifeghjcgbfnaaGx0
import Derived.Test.YtlifeghjcgbfnaaGx11
import Derived.Test.YtlifeghjcgbfnaaGx14
namespace Go.Proofs.Ytlifeghjcgbfnaa.G
open Go.RowKit Go.Proofs.YtlifeghjcgbfnaaW.PrintWords Go.Proofs.YtlifeghjcgbfnaaW.PrintLast Go.Proofs.YtlifeghjcgbfnaaW.PrintMore
attribute [local go_sem] max2_int min2_int max_two min_two max_three min_three max_four min_four   -- for this text's walks alone
set_option linter.unusedVariables false
set_option linter.unusedSimpArgs false

/-! ### apogeeref10_Meet: function 23 -/
mutual
def apogeeref10_Meet.j0 : Nat → Bool → Int → Int → Int → Int → Int → Int → Int → Int → Option (Bool)
 | 0, _, _, _, _, _, _, _, _, _ => none
 | k + 1, x26, x367000, x367001, x368000, x368001, x369000, x369001, x370000, x370001 => if x26 = true then (some false) else ((apogeeref10_On.f k x367000 x367001 x369000 x369001 x370000 x370001).bind fun t374 => (if t374 = true then (apogeeref10_Meet.j1 k true x367000 x367001 x368000 x368001 x369000 x369001 x370000 x370001) else ((apogeeref10_On.f k x368000 x368001 x369000 x369001 x370000 x370001).bind fun t375 => (if t375 = true then (apogeeref10_Meet.j1 k true x367000 x367001 x368000 x368001 x369000 x369001 x370000 x370001) else ((apogeeref10_On.f k x369000 x369001 x367000 x367001 x368000 x368001).bind fun t376 => (if t376 = true then (apogeeref10_Meet.j1 k true x367000 x367001 x368000 x368001 x369000 x369001 x370000 x370001) else ((apogeeref10_On.f k x370000 x370001 x367000 x367001 x368000 x368001).bind fun t377 => (apogeeref10_Meet.j1 k t377 x367000 x367001 x368000 x368001 x369000 x369001 x370000 x370001))))))))
def apogeeref10_Meet.j1 : Nat → Bool → Int → Int → Int → Int → Int → Int → Int → Int → Option (Bool)
 | 0, _, _, _, _, _, _, _, _, _ => none
 | k + 1, x48, x367000, x367001, x368000, x368001, x369000, x369001, x370000, x370001 => if x48 = true then (some true) else ((apogeeref10_Turn.f k x367000 x367001 x368000 x368001 x369000 x369001).bind fun t378 => ((apogeeref10_Turn.f k x367000 x367001 x368000 x368001 x370000 x370001).bind fun t379 => (if (wrap64 (t378 * t379)) < 0 then ((apogeeref10_Turn.f k x369000 x369001 x370000 x370001 x367000 x367001).bind fun t380 => ((apogeeref10_Turn.f k x369000 x369001 x370000 x370001 x368000 x368001).bind fun t381 => (some (decide ((wrap64 (t380 * t381)) < 0))))) else (some false))))
end
def apogeeref10_Meet.f (k : Nat) (a0_0 : Int) (a0_1 : Int) (a1_0 : Int) (a1_1 : Int) (a2_0 : Int) (a2_1 : Int) (a3_0 : Int) (a3_1 : Int) : Option (Bool) := (apogeeref10_Right.f a0_0 a0_1).bind fun t370 => (if t370 = true then ((apogeeref10_Right.f a1_0 a1_1).bind fun t371 => (if t371 = true then ((apogeeref10_Right.f a2_0 a2_1).bind fun t372 => (if t372 = true then ((apogeeref10_Right.f a3_0 a3_1).bind fun t373 => (apogeeref10_Meet.j0 k (!t373) a0_0 a0_1 a1_0 a1_1 a2_0 a2_1 a3_0 a3_1)) else (apogeeref10_Meet.j0 k true a0_0 a0_1 a1_0 a1_1 a2_0 a2_1 a3_0 a3_1))) else (apogeeref10_Meet.j0 k true a0_0 a0_1 a1_0 a1_1 a2_0 a2_1 a3_0 a3_1))) else (apogeeref10_Meet.j0 k true a0_0 a0_1 a1_0 a1_1 a2_0 a2_1 a3_0 a3_1))
theorem apogeeref10_Meet.mono_l : ∀ k, (∀ y0 y1 y2 y3 y4 y5 y6 y7 y8, LeO (apogeeref10_Meet.j0 k y0 y1 y2 y3 y4 y5 y6 y7 y8) (apogeeref10_Meet.j0 (k + 1) y0 y1 y2 y3 y4 y5 y6 y7 y8)) ∧ (∀ y0 y1 y2 y3 y4 y5 y6 y7 y8, LeO (apogeeref10_Meet.j1 k y0 y1 y2 y3 y4 y5 y6 y7 y8) (apogeeref10_Meet.j1 (k + 1) y0 y1 y2 y3 y4 y5 y6 y7 y8))
 | 0 => ⟨fun _ _ _ _ _ _ _ _ _ r h => by simp [apogeeref10_Meet.j0] at h, fun _ _ _ _ _ _ _ _ _ r h => by simp [apogeeref10_Meet.j1] at h⟩
 | k + 1 => by
  obtain ⟨ih0, ih1⟩ := apogeeref10_Meet.mono_l k
  refine ⟨?_, ?_⟩
  ·intro y0 y1 y2 y3 y4 y5 y6 y7 y8
   unfold apogeeref10_Meet.j0
   repeat' first
   | (with_reducible exact ih0 _ _ _ _ _ _ _ _ _)
   | (with_reducible exact ih1 _ _ _ _ _ _ _ _ _)
   | (with_reducible exact apogeeref10_On.mono _ _ _ _ _ _ _)
   | (with_reducible exact apogeeref10_Turn.mono _ _ _ _ _ _ _)
   | (with_reducible exact LeO.refl _)
   | (with_reducible exact LeO.none _)
   | (with_reducible refine LeO.ite ?_ ?_)
   | (with_reducible refine LeO.bind ?_ (fun _ => ?_))
   | exact ih0 _ _ _ _ _ _ _ _ _
   | exact ih1 _ _ _ _ _ _ _ _ _
   | exact apogeeref10_On.mono _ _ _ _ _ _ _
   | exact apogeeref10_Turn.mono _ _ _ _ _ _ _
   | exact LeO.none _
   | refine LeO.ite ?_ ?_
   | refine LeO.bind ?_ (fun _ => ?_)
  ·intro y0 y1 y2 y3 y4 y5 y6 y7 y8
   unfold apogeeref10_Meet.j1
   repeat' first
   | (with_reducible exact ih0 _ _ _ _ _ _ _ _ _)
   | (with_reducible exact ih1 _ _ _ _ _ _ _ _ _)
   | (with_reducible exact apogeeref10_On.mono _ _ _ _ _ _ _)
   | (with_reducible exact apogeeref10_Turn.mono _ _ _ _ _ _ _)
   | (with_reducible exact LeO.refl _)
   | (with_reducible exact LeO.none _)
   | (with_reducible refine LeO.ite ?_ ?_)
   | (with_reducible refine LeO.bind ?_ (fun _ => ?_))
   | exact ih0 _ _ _ _ _ _ _ _ _
   | exact ih1 _ _ _ _ _ _ _ _ _
   | exact apogeeref10_On.mono _ _ _ _ _ _ _
   | exact apogeeref10_Turn.mono _ _ _ _ _ _ _
   | exact LeO.none _
   | refine LeO.ite ?_ ?_
   | refine LeO.bind ?_ (fun _ => ?_)
theorem apogeeref10_Meet.mono : ∀ a0 a1 a2 a3 a4 a5 a6 a7 k, LeO (apogeeref10_Meet.f k a0 a1 a2 a3 a4 a5 a6 a7) (apogeeref10_Meet.f (k + 1) a0 a1 a2 a3 a4 a5 a6 a7) := by
 intro a0 a1 a2 a3 a4 a5 a6 a7 k
 obtain ⟨ih0, ih1⟩ := apogeeref10_Meet.mono_l k
 unfold apogeeref10_Meet.f
 repeat' first
   | (with_reducible exact ih0 _ _ _ _ _ _ _ _ _)
   | (with_reducible exact ih1 _ _ _ _ _ _ _ _ _)
   | (with_reducible exact apogeeref10_On.mono _ _ _ _ _ _ _)
   | (with_reducible exact apogeeref10_Turn.mono _ _ _ _ _ _ _)
   | (with_reducible exact LeO.refl _)
   | (with_reducible exact LeO.none _)
   | (with_reducible refine LeO.ite ?_ ?_)
   | (with_reducible refine LeO.bind ?_ (fun _ => ?_))
   | exact ih0 _ _ _ _ _ _ _ _ _
   | exact ih1 _ _ _ _ _ _ _ _ _
   | exact apogeeref10_On.mono _ _ _ _ _ _ _
   | exact apogeeref10_Turn.mono _ _ _ _ _ _ _
   | exact LeO.none _
   | refine LeO.ite ?_ ?_
   | refine LeO.bind ?_ (fun _ => ?_)
def apogeeref10_Meet.T5 : Bool × List (List Nat × List Nat) := (true, [([], []), ([], []), ([], []), ([0, 1, 2], [0, 1, 2]), ([], []), ([], []), ([], []), ([4, 5, 6, 3], [4, 5, 6]), ([3, 7], [3, 7]), ([8], [8]), ([9, 7], [9]), ([10], [10]), ([10], [10]), ([10], [10]), ([11, 12, 13, 10, 10], [10, 11, 12, 13]), ([10], [10]), ([10], [10]), ([10], [10]), ([15, 16, 17, 14, 10], [10, 15, 16, 17]), ([14, 18, 10], [10, 14, 18]), ([19, 10], [10, 19]), ([10, 20], [10, 20]), ([21, 18, 0, 1, 2, 3, 4, 5, 6, 7, 8, 9, 10, 11, 12, 13, 14, 15, 16, 17, 18, 19, 20, 21], [21])])
def apogeeref10_Meet.B5 : List Nat := [0, 0, 0, 7, 0, 0, 0, 127, 255, 511, 1023, 2047, 2047, 2047, 16383, 2047, 2047, 2047, 262143, 524287, 1048575, 2097151, 4194303]
theorem apogeeref10_Meet.tab5 : rtab .any (opsOf Try.f23 5) = apogeeref10_Meet.T5 := by kernel_rfl
theorem apogeeref10_Meet.bits5 : waitsOk apogeeref10_Meet.T5.2 apogeeref10_Meet.B5 = true := by kernel_rfl
set_option maxHeartbeats 8000000 in
set_option maxRecDepth 100000 in
theorem apogeeref10_Meet.calls (k : Nat) (a0_0 : Int) (a0_1 : Int) (a1_0 : Int) (a1_1 : Int) (a2_0 : Int) (a2_1 : Int) (a3_0 : Int) (a3_1 : Int) (r : Bool) (w : World) (h : apogeeref10_Meet.f k a0_0 a0_1 a1_0 a1_1 a2_0 a2_1 a3_0 a3_1 = some r) :
  Calls Try.prog 23 #[.agg #[.int .i64 a0_0, .int .i64 a0_1], .agg #[.int .i64 a1_0, .int .i64 a1_1], .agg #[.int .i64 a2_0, .int .i64 a2_1], .agg #[.int .i64 a3_0, .int .i64 a3_1]] w fun e w' => e = .returned (.bool r) ∧ Below w.heap.size w w' := by
 have hu31 := Try.underlying31
 have HB := bA (Below.refl w.heap.size w)
 have H : ((apogeeref10_Right.f a0_0 a0_1).bind fun t370 => (if t370 = true then ((apogeeref10_Right.f a1_0 a1_1).bind fun t371 => (if t371 = true then ((apogeeref10_Right.f a2_0 a2_1).bind fun t372 => (if t372 = true then ((apogeeref10_Right.f a3_0 a3_1).bind fun t373 => (apogeeref10_Meet.j0 k (!t373) a0_0 a0_1 a1_0 a1_1 a2_0 a2_1 a3_0 a3_1)) else (apogeeref10_Meet.j0 k true a0_0 a0_1 a1_0 a1_1 a2_0 a2_1 a3_0 a3_1))) else (apogeeref10_Meet.j0 k true a0_0 a0_1 a1_0 a1_1 a2_0 a2_1 a3_0 a3_1))) else (apogeeref10_Meet.j0 k true a0_0 a0_1 a1_0 a1_1 a2_0 a2_1 a3_0 a3_1))) = some r := h
 clear h
 have HC5 := bA H
 clear H
 go_enter Try.func23, Try.ntmps23
 go_upto_region 1 with (first | ((with_reducible refine gate_dst (N := 4) rfl ?_); refine bE (N := 4) (cs := #[.int .i64 a0_0, .int .i64 a0_1]) (t := 31) ?_; intro gb366 hg w6 hbox hb; have n0_ := bA (bS hb); have n1_ := bA (hbox); have n2_ := bA ((bZ hg : w.heap.size ≤ gb366)); have n3_ := bA ((bZ hg : w.heap.size ≤ gb366)); clear HB; have HB := n0_; have BK366 := n1_; have GW366 := n2_; have GE366 := n3_; clear n0_ n1_ n2_ n3_; clear hb hbox hg) | ((with_reducible refine gate_dst (N := 5) rfl ?_); refine bE (N := 5) (cs := #[.int .i64 a1_0, .int .i64 a1_1]) (t := 31) ?_; intro gb367 hg w7 hbox hb; have n0_ := bA (bB BK366 hb); have n1_ := bA (bS hb); have n2_ := bA (hbox); have n3_ := bA ((bZ hg : w.heap.size ≤ gb367)); have n4_ := bA ((bZ hg : w.heap.size ≤ gb367)); have n5_ := bA ((bL BK366 hg : gb366 ≠ gb367)); have n6_ := bA ((bG BK366 hg : gb367 ≠ gb366)); clear BK366; clear HB; have BK366 := n0_; have HB := n1_; have BK367 := n2_; have GW367 := n3_; have GE367 := n4_; have NB366_367 := n5_; have NB367_366 := n6_; clear n0_ n1_ n2_ n3_ n4_ n5_ n6_; clear hb hbox hg) | ((with_reducible refine gate_dst (N := 6) rfl ?_); refine bE (N := 6) (cs := #[.int .i64 a2_0, .int .i64 a2_1]) (t := 31) ?_; intro gb368 hg w8 hbox hb; have n0_ := bA (bB BK366 hb); have n1_ := bA (bB BK367 hb); have n2_ := bA (bS hb); have n3_ := bA (hbox); have n4_ := bA ((bZ hg : w.heap.size ≤ gb368)); have n5_ := bA ((bZ hg : w.heap.size ≤ gb368)); have n6_ := bA ((bL BK366 hg : gb366 ≠ gb368)); have n7_ := bA ((bG BK366 hg : gb368 ≠ gb366)); have n8_ := bA ((bL BK367 hg : gb367 ≠ gb368)); have n9_ := bA ((bG BK367 hg : gb368 ≠ gb367)); clear BK366; clear BK367; clear HB; have BK366 := n0_; have BK367 := n1_; have HB := n2_; have BK368 := n3_; have GW368 := n4_; have GE368 := n5_; have NB366_368 := n6_; have NB368_366 := n7_; have NB367_368 := n8_; have NB368_367 := n9_; clear n0_ n1_ n2_ n3_ n4_ n5_ n6_ n7_ n8_ n9_; clear hb hbox hg) | ((with_reducible refine gate_dst (N := 7) rfl ?_); refine bE (N := 7) (cs := #[.int .i64 a3_0, .int .i64 a3_1]) (t := 31) ?_; intro gb369 hg w9 hbox hb; have n0_ := bA (bB BK366 hb); have n1_ := bA (bB BK367 hb); have n2_ := bA (bB BK368 hb); have n3_ := bA (bS hb); have n4_ := bA (hbox); have n5_ := bA ((bZ hg : w.heap.size ≤ gb369)); have n6_ := bA ((bZ hg : w.heap.size ≤ gb369)); have n7_ := bA ((bL BK366 hg : gb366 ≠ gb369)); have n8_ := bA ((bG BK366 hg : gb369 ≠ gb366)); have n9_ := bA ((bL BK367 hg : gb367 ≠ gb369)); have n10_ := bA ((bG BK367 hg : gb369 ≠ gb367)); have n11_ := bA ((bL BK368 hg : gb368 ≠ gb369)); have n12_ := bA ((bG BK368 hg : gb369 ≠ gb368)); clear BK366; clear BK367; clear BK368; clear HB; have BK366 := n0_; have BK367 := n1_; have BK368 := n2_; have HB := n3_; have BK369 := n4_; have GW369 := n5_; have GE369 := n6_; have NB366_369 := n7_; have NB369_366 := n8_; have NB367_369 := n9_; have NB369_367 := n10_; have NB368_369 := n11_; have NB369_368 := n12_; clear n0_ n1_ n2_ n3_ n4_ n5_ n6_ n7_ n8_ n9_ n10_ n11_ n12_; clear hb hbox hg))
 (try simp only [Act.put, List.setIfInBounds_toArray, List.set_cons_zero, List.set_cons_succ])
 go_cut [26] (fun v26 wc => ∃ (kq : Nat) (x26_4 : Bool), v26 = .bool x26_4 ∧ Aside0 (apogeeref10_Meet.j0 kq x26_4 a0_0 a0_1 a1_0 a1_1 a2_0 a2_1 a3_0 a3_1 = some r) ∧ Aside0 (kq ≤ k) ∧ Aside0 (wc.heap[gb366]? = some (.cells #[.int .i64 a0_0, .int .i64 a0_1] 31 (0, 0))) ∧ Aside0 (wc.heap[gb367]? = some (.cells #[.int .i64 a1_0, .int .i64 a1_1] 31 (0, 0))) ∧ Aside0 (wc.heap[gb368]? = some (.cells #[.int .i64 a2_0, .int .i64 a2_1] 31 (0, 0))) ∧ Aside0 (wc.heap[gb369]? = some (.cells #[.int .i64 a3_0, .int .i64 a3_1] 31 (0, 0))) ∧ Aside0 (Below w.heap.size w wc))
 case first =>
  have H := HC5.out
  clear HC5
  replace H := Option.bind_eq_some_iff.mp H
  obtain ⟨t370, A100, H⟩ := H
  replace H : (if t370 = true then ((apogeeref10_Right.f a1_0 a1_1).bind fun t371 => (if t371 = true then ((apogeeref10_Right.f a2_0 a2_1).bind fun t372 => (if t372 = true then ((apogeeref10_Right.f a3_0 a3_1).bind fun t373 => (apogeeref10_Meet.j0 k (!t373) a0_0 a0_1 a1_0 a1_1 a2_0 a2_1 a3_0 a3_1)) else (apogeeref10_Meet.j0 k true a0_0 a0_1 a1_0 a1_1 a2_0 a2_1 a3_0 a3_1))) else (apogeeref10_Meet.j0 k true a0_0 a0_1 a1_0 a1_1 a2_0 a2_1 a3_0 a3_1))) else (apogeeref10_Meet.j0 k true a0_0 a0_1 a1_0 a1_1 a2_0 a2_1 a3_0 a3_1)) = some r := H
  have A10 := bA A100
  clear A100
  by_cases c11 : t370 = true
  subst c11
  rw [if_pos rfl] at H
  replace H := Option.bind_eq_some_iff.mp H
  obtain ⟨t371, A120, H⟩ := H
  replace H : (if t371 = true then ((apogeeref10_Right.f a2_0 a2_1).bind fun t372 => (if t372 = true then ((apogeeref10_Right.f a3_0 a3_1).bind fun t373 => (apogeeref10_Meet.j0 k (!t373) a0_0 a0_1 a1_0 a1_1 a2_0 a2_1 a3_0 a3_1)) else (apogeeref10_Meet.j0 k true a0_0 a0_1 a1_0 a1_1 a2_0 a2_1 a3_0 a3_1))) else (apogeeref10_Meet.j0 k true a0_0 a0_1 a1_0 a1_1 a2_0 a2_1 a3_0 a3_1)) = some r := H
  have A12 := bA A120
  clear A120
  by_cases c13 : t371 = true
  subst c13
  rw [if_pos rfl] at H
  replace H := Option.bind_eq_some_iff.mp H
  obtain ⟨t372, A140, H⟩ := H
  replace H : (if t372 = true then ((apogeeref10_Right.f a3_0 a3_1).bind fun t373 => (apogeeref10_Meet.j0 k (!t373) a0_0 a0_1 a1_0 a1_1 a2_0 a2_1 a3_0 a3_1)) else (apogeeref10_Meet.j0 k true a0_0 a0_1 a1_0 a1_1 a2_0 a2_1 a3_0 a3_1)) = some r := H
  have A14 := bA A140
  clear A140
  by_cases c15 : t372 = true
  subst c15
  rw [if_pos rfl] at H
  replace H := Option.bind_eq_some_iff.mp H
  obtain ⟨t373, A160, H⟩ := H
  replace H : (apogeeref10_Meet.j0 k (!t373) a0_0 a0_1 a1_0 a1_1 a2_0 a2_1 a3_0 a3_1) = some r := H
  have A16 := bA A160
  clear A160
  have H' := bA H
  clear H
  have hnb17 := NB366_367.out
  have hnc17 := NB367_366.out
  have hnb18 := NB366_368.out
  have hnc18 := NB368_366.out
  have hnb19 := NB366_369.out
  have hnc19 := NB369_366.out
  have hcz20_0 : w9.cell? ⟨gb366, 0, none⟩ = some (.int .i64 a0_0) := (blk_cell BK366.out 0).trans rfl
  have hcz20_1 : w9.cell? ⟨gb366, 1, none⟩ = some (.int .i64 a0_1) := (blk_cell BK366.out 1).trans rfl
  have hfz20_0 := blk_frozen BK366.out 0
  have hfz20_1 := blk_frozen BK366.out 1
  rotate_left
  replace c15 := Bool.eq_false_iff.mpr c15
  subst c15
  rw [if_neg (show ¬ (false = true) by decide)] at H
  have H' := bA H
  clear H
  have hnb31 := NB366_367.out
  have hnc31 := NB367_366.out
  have hnb32 := NB366_368.out
  have hnc32 := NB368_366.out
  have hnb33 := NB366_369.out
  have hnc33 := NB369_366.out
  have hcz34_0 : w9.cell? ⟨gb366, 0, none⟩ = some (.int .i64 a0_0) := (blk_cell BK366.out 0).trans rfl
  have hcz34_1 : w9.cell? ⟨gb366, 1, none⟩ = some (.int .i64 a0_1) := (blk_cell BK366.out 1).trans rfl
  have hfz34_0 := blk_frozen BK366.out 0
  have hfz34_1 := blk_frozen BK366.out 1
  rotate_left
  replace c13 := Bool.eq_false_iff.mpr c13
  subst c13
  rw [if_neg (show ¬ (false = true) by decide)] at H
  have H' := bA H
  clear H
  have hnb43 := NB366_367.out
  have hnc43 := NB367_366.out
  have hnb44 := NB366_368.out
  have hnc44 := NB368_366.out
  have hnb45 := NB366_369.out
  have hnc45 := NB369_366.out
  have hcz46_0 : w9.cell? ⟨gb366, 0, none⟩ = some (.int .i64 a0_0) := (blk_cell BK366.out 0).trans rfl
  have hcz46_1 : w9.cell? ⟨gb366, 1, none⟩ = some (.int .i64 a0_1) := (blk_cell BK366.out 1).trans rfl
  have hfz46_0 := blk_frozen BK366.out 0
  have hfz46_1 := blk_frozen BK366.out 1
  rotate_left
  replace c11 := Bool.eq_false_iff.mpr c11
  subst c11
  rw [if_neg (show ¬ (false = true) by decide)] at H
  have H' := bA H
  clear H
  have hnb52 := NB366_367.out
  have hnc52 := NB367_366.out
  have hnb53 := NB366_368.out
  have hnc53 := NB368_366.out
  have hnb54 := NB366_369.out
  have hnc54 := NB369_366.out
  have hcz55_0 : w9.cell? ⟨gb366, 0, none⟩ = some (.int .i64 a0_0) := (blk_cell BK366.out 0).trans rfl
  have hcz55_1 : w9.cell? ⟨gb366, 1, none⟩ = some (.int .i64 a0_1) := (blk_cell BK366.out 1).trans rfl
  have hfz55_0 := blk_frozen BK366.out 0
  have hfz55_1 := blk_frozen BK366.out 1
  rotate_left
  all_goals go_wp2_with (first | ((first | ((with_reducible refine gate_callee (f := 17) rfl ?_); refine bC (some 10) Try.func17 #[.agg #[.int .i64 a0_0, .int .i64 a0_1]] ?_) | go_at_call 17); (with_reducible refine (apogeeref10_Right.calls a0_0 a0_1 true _ A10.out).mono ?_); rintro e wz0 ⟨rfl, hb⟩; (first | refine ⟨_, rfl, ?_⟩ | skip); have n0_ := bA (bB BK366 hb); have n1_ := bA (bB BK367 hb); have n2_ := bA (bB BK368 hb); have n3_ := bA (bB BK369 hb); have n4_ := bA (bS hb); clear BK366; clear BK367; clear BK368; clear BK369; clear HB; have BK366 := n0_; have BK367 := n1_; have BK368 := n2_; have BK369 := n3_; have HB := n4_; clear n0_ n1_ n2_ n3_ n4_; (try clear hb); (try clear hb2); (try clear hk); (try clear hi); have hz1 := NB367_368.out; have hz2 := NB368_367.out; have hz3 := NB367_369.out; have hz4 := NB369_367.out; have hz5 : wz0.cell? ⟨gb367, 0, none⟩ = some (.int .i64 a1_0) := (blk_cell BK367.out 0).trans rfl; have hz6 : wz0.cell? ⟨gb367, 1, none⟩ = some (.int .i64 a1_1) := (blk_cell BK367.out 1).trans rfl; have hz7 := blk_frozen BK367.out 0; have hz8 := blk_frozen BK367.out 1) | (go_at_call 17; (with_reducible refine (apogeeref10_Right.calls a1_0 a1_1 true _ A12.out).mono ?_); rintro e wz1 ⟨rfl, hb⟩; have n0_ := bA (bB BK366 hb); have n1_ := bA (bB BK367 hb); have n2_ := bA (bB BK368 hb); have n3_ := bA (bB BK369 hb); have n4_ := bA (bS hb); clear BK366; clear BK367; clear BK368; clear BK369; clear HB; have BK366 := n0_; have BK367 := n1_; have BK368 := n2_; have BK369 := n3_; have HB := n4_; clear n0_ n1_ n2_ n3_ n4_; (try clear hb); (try clear hb2); (try clear hk); (try clear hi); have hz9 := NB368_369.out; have hz10 := NB369_368.out; have hz11 : wz1.cell? ⟨gb368, 0, none⟩ = some (.int .i64 a2_0) := (blk_cell BK368.out 0).trans rfl; have hz12 : wz1.cell? ⟨gb368, 1, none⟩ = some (.int .i64 a2_1) := (blk_cell BK368.out 1).trans rfl; have hz13 := blk_frozen BK368.out 0; have hz14 := blk_frozen BK368.out 1) | (go_at_call 17; (with_reducible refine (apogeeref10_Right.calls a2_0 a2_1 true _ A14.out).mono ?_); rintro e wz2 ⟨rfl, hb⟩; have n0_ := bA (bB BK366 hb); have n1_ := bA (bB BK367 hb); have n2_ := bA (bB BK368 hb); have n3_ := bA (bB BK369 hb); have n4_ := bA (bS hb); clear BK366; clear BK367; clear BK368; clear BK369; clear HB; have BK366 := n0_; have BK367 := n1_; have BK368 := n2_; have BK369 := n3_; have HB := n4_; clear n0_ n1_ n2_ n3_ n4_; (try clear hb); (try clear hb2); (try clear hk); (try clear hi); have hz15 : wz2.cell? ⟨gb369, 0, none⟩ = some (.int .i64 a3_0) := (blk_cell BK369.out 0).trans rfl; have hz16 : wz2.cell? ⟨gb369, 1, none⟩ = some (.int .i64 a3_1) := (blk_cell BK369.out 1).trans rfl; have hz17 := blk_frozen BK369.out 0; have hz18 := blk_frozen BK369.out 1) | (go_at_call 17; (with_reducible refine (apogeeref10_Right.calls a3_0 a3_1 t373 _ A16.out).mono ?_); rintro e wz3 ⟨rfl, hb⟩; have n0_ := bA (bB BK366 hb); have n1_ := bA (bB BK367 hb); have n2_ := bA (bB BK368 hb); have n3_ := bA (bB BK369 hb); have n4_ := bA (bS hb); clear BK366; clear BK367; clear BK368; clear BK369; clear HB; have BK366 := n0_; have BK367 := n1_; have BK368 := n2_; have BK369 := n3_; have HB := n4_; clear n0_ n1_ n2_ n3_ n4_; (try clear hb); (try clear hb2); (try clear hk); (try clear hi)) | (go_at_call 17; (with_reducible refine (apogeeref10_Right.calls a2_0 a2_1 false _ A14.out).mono ?_); rintro e wz2 ⟨rfl, hb⟩; have n0_ := bA (bB BK366 hb); have n1_ := bA (bB BK367 hb); have n2_ := bA (bB BK368 hb); have n3_ := bA (bB BK369 hb); have n4_ := bA (bS hb); clear BK366; clear BK367; clear BK368; clear BK369; clear HB; have BK366 := n0_; have BK367 := n1_; have BK368 := n2_; have BK369 := n3_; have HB := n4_; clear n0_ n1_ n2_ n3_ n4_; (try clear hb); (try clear hb2); (try clear hk); (try clear hi)) | (go_at_call 17; (with_reducible refine (apogeeref10_Right.calls a1_0 a1_1 false _ A12.out).mono ?_); rintro e wz1 ⟨rfl, hb⟩; have n0_ := bA (bB BK366 hb); have n1_ := bA (bB BK367 hb); have n2_ := bA (bB BK368 hb); have n3_ := bA (bB BK369 hb); have n4_ := bA (bS hb); clear BK366; clear BK367; clear BK368; clear BK369; clear HB; have BK366 := n0_; have BK367 := n1_; have BK368 := n2_; have BK369 := n3_; have HB := n4_; clear n0_ n1_ n2_ n3_ n4_; (try clear hb); (try clear hb2); (try clear hk); (try clear hi)) | ((first | ((with_reducible refine gate_callee (f := 17) rfl ?_); refine bC (some 10) Try.func17 #[.agg #[.int .i64 a0_0, .int .i64 a0_1]] ?_) | go_at_call 17); (with_reducible refine (apogeeref10_Right.calls a0_0 a0_1 false _ A10.out).mono ?_); rintro e wz0 ⟨rfl, hb⟩; (first | refine ⟨_, rfl, ?_⟩ | skip); have n0_ := bA (bB BK366 hb); have n1_ := bA (bB BK367 hb); have n2_ := bA (bB BK368 hb); have n3_ := bA (bB BK369 hb); have n4_ := bA (bS hb); clear BK366; clear BK367; clear BK368; clear BK369; clear HB; have BK366 := n0_; have BK367 := n1_; have BK368 := n2_; have BK369 := n3_; have HB := n4_; clear n0_ n1_ n2_ n3_ n4_; (try clear hb); (try clear hb2); (try clear hk); (try clear hi)))
  ·go_meet
   case rel => exact ⟨_, (!t373), (by first | rfl | (simp; done) | (simp [*]; done)), H', ⟨by first | omega | exact Nat.le_refl _⟩, ⟨by (with_reducible repeat (first | refine blk_drewN ?_ _ | refine blk_drew ?_ | refine blk_alloc ?_ _)); exact BK366.out⟩, ⟨by (with_reducible repeat (first | refine blk_drewN ?_ _ | refine blk_drew ?_ | refine blk_alloc ?_ _)); exact BK367.out⟩, ⟨by (with_reducible repeat (first | refine blk_drewN ?_ _ | refine blk_drew ?_ | refine blk_alloc ?_ _)); exact BK368.out⟩, ⟨by (with_reducible repeat (first | refine blk_drewN ?_ _ | refine blk_drew ?_ | refine blk_alloc ?_ _)); exact BK369.out⟩, ⟨bX⟩⟩
  ·go_meet
   case rel => exact ⟨_, (true), (by first | rfl | (simp; done) | (simp [*]; done)), H', ⟨by first | omega | exact Nat.le_refl _⟩, ⟨by (with_reducible repeat (first | refine blk_drewN ?_ _ | refine blk_drew ?_ | refine blk_alloc ?_ _)); exact BK366.out⟩, ⟨by (with_reducible repeat (first | refine blk_drewN ?_ _ | refine blk_drew ?_ | refine blk_alloc ?_ _)); exact BK367.out⟩, ⟨by (with_reducible repeat (first | refine blk_drewN ?_ _ | refine blk_drew ?_ | refine blk_alloc ?_ _)); exact BK368.out⟩, ⟨by (with_reducible repeat (first | refine blk_drewN ?_ _ | refine blk_drew ?_ | refine blk_alloc ?_ _)); exact BK369.out⟩, ⟨bX⟩⟩
  ·go_meet
   case rel => exact ⟨_, (true), (by first | rfl | (simp; done) | (simp [*]; done)), H', ⟨by first | omega | exact Nat.le_refl _⟩, ⟨by (with_reducible repeat (first | refine blk_drewN ?_ _ | refine blk_drew ?_ | refine blk_alloc ?_ _)); exact BK366.out⟩, ⟨by (with_reducible repeat (first | refine blk_drewN ?_ _ | refine blk_drew ?_ | refine blk_alloc ?_ _)); exact BK367.out⟩, ⟨by (with_reducible repeat (first | refine blk_drewN ?_ _ | refine blk_drew ?_ | refine blk_alloc ?_ _)); exact BK368.out⟩, ⟨by (with_reducible repeat (first | refine blk_drewN ?_ _ | refine blk_drew ?_ | refine blk_alloc ?_ _)); exact BK369.out⟩, ⟨bX⟩⟩
  ·go_meet
   case rel => exact ⟨_, (true), (by first | rfl | (simp; done) | (simp [*]; done)), H', ⟨by first | omega | exact Nat.le_refl _⟩, ⟨by (with_reducible repeat (first | refine blk_drewN ?_ _ | refine blk_drew ?_ | refine blk_alloc ?_ _)); exact BK366.out⟩, ⟨by (with_reducible repeat (first | refine blk_drewN ?_ _ | refine blk_drew ?_ | refine blk_alloc ?_ _)); exact BK367.out⟩, ⟨by (with_reducible repeat (first | refine blk_drewN ?_ _ | refine blk_drew ?_ | refine blk_alloc ?_ _)); exact BK368.out⟩, ⟨by (with_reducible repeat (first | refine blk_drewN ?_ _ | refine blk_drew ?_ | refine blk_alloc ?_ _)); exact BK369.out⟩, ⟨bX⟩⟩
 case rest =>
  clear HC5
  try clear c1
  try clear c2
  try clear p2
  try clear c3
  try clear c4
  try clear c5
  try clear c11
  try clear c13
  try clear c15
  try clear c17
  try clear c18
  try clear c19
  try clear c22
  try clear c23
  try clear c26
  try clear c31
  try clear c32
  try clear c33
  try clear c36
  try clear c37
  try clear c40
  try clear c43
  try clear c44
  try clear c45
  try clear c48
  try clear c49
  try clear c52
  try clear c53
  try clear c54
  try clear hcz20_0
  try clear hcz20_1
  try clear hcz24_0
  try clear hcz24_1
  try clear hcz27_0
  try clear hcz27_1
  try clear hcz29_0
  try clear hcz29_1
  try clear hcz34_0
  try clear hcz34_1
  try clear hcz38_0
  try clear hcz38_1
  try clear hcz41_0
  try clear hcz41_1
  try clear hcz46_0
  try clear hcz46_1
  try clear hcz50_0
  try clear hcz50_1
  try clear hcz55_0
  try clear hcz55_1
  try clear hfz20_0
  try clear hfz20_1
  try clear hfz24_0
  try clear hfz24_1
  try clear hfz27_0
  try clear hfz27_1
  try clear hfz29_0
  try clear hfz29_1
  try clear hfz34_0
  try clear hfz34_1
  try clear hfz38_0
  try clear hfz38_1
  try clear hfz41_0
  try clear hfz41_1
  try clear hfz46_0
  try clear hfz46_1
  try clear hfz50_0
  try clear hfz50_1
  try clear hfz55_0
  try clear hfz55_1
  obtain ⟨kq, x26_4, rfl, HA, HJ4, BK366, BK367, BK368, BK369, HB⟩ := hcut
  cases kq with
  | zero => exact absurd HA.out (by simp [apogeeref10_Meet.j0])
  | succ kj4 =>
   have H := HA.out
   clear HA
   simp only [apogeeref10_Meet.j0] at H
   by_cases c57 : x26_4 = true
   ·subst c57
    rw [if_pos rfl] at H
    obtain rfl := Option.some.inj H
    go_wp2
    go_ret
    exact bF
   ·replace c57 := Bool.eq_false_iff.mpr c57
    subst c57
    rw [if_neg (show ¬ (false = true) by decide)] at H
    have HC58 := bA H
    clear H
    go_upto_region 3 with (fail)
    go_cut [48] (fun v48 wc => ∃ (kq : Nat) (x48_57 : Bool), v48 = .bool x48_57 ∧ Aside0 (apogeeref10_Meet.j1 kq x48_57 a0_0 a0_1 a1_0 a1_1 a2_0 a2_1 a3_0 a3_1 = some r) ∧ Aside0 (kq ≤ kj4) ∧ Aside0 (wc.heap[gb366]? = some (.cells #[.int .i64 a0_0, .int .i64 a0_1] 31 (0, 0))) ∧ Aside0 (wc.heap[gb367]? = some (.cells #[.int .i64 a1_0, .int .i64 a1_1] 31 (0, 0))) ∧ Aside0 (wc.heap[gb368]? = some (.cells #[.int .i64 a2_0, .int .i64 a2_1] 31 (0, 0))) ∧ Aside0 (wc.heap[gb369]? = some (.cells #[.int .i64 a3_0, .int .i64 a3_1] 31 (0, 0))) ∧ Aside0 (Below w.heap.size w wc))
    case first =>
     have H := HC58.out
     clear HC58
     replace H := Option.bind_eq_some_iff.mp H
     obtain ⟨t374, A590, H⟩ := H
     replace H : (if t374 = true then (apogeeref10_Meet.j1 kj4 true a0_0 a0_1 a1_0 a1_1 a2_0 a2_1 a3_0 a3_1) else ((apogeeref10_On.f kj4 a1_0 a1_1 a2_0 a2_1 a3_0 a3_1).bind fun t375 => (if t375 = true then (apogeeref10_Meet.j1 kj4 true a0_0 a0_1 a1_0 a1_1 a2_0 a2_1 a3_0 a3_1) else ((apogeeref10_On.f kj4 a2_0 a2_1 a0_0 a0_1 a1_0 a1_1).bind fun t376 => (if t376 = true then (apogeeref10_Meet.j1 kj4 true a0_0 a0_1 a1_0 a1_1 a2_0 a2_1 a3_0 a3_1) else ((apogeeref10_On.f kj4 a3_0 a3_1 a0_0 a0_1 a1_0 a1_1).bind fun t377 => (apogeeref10_Meet.j1 kj4 t377 a0_0 a0_1 a1_0 a1_1 a2_0 a2_1 a3_0 a3_1))))))) = some r := H
     have A59 := bA A590
     clear A590
     by_cases c60 : t374 = true
     subst c60
     rw [if_pos rfl] at H
     have H' := bA H
     clear H
     have hnb61 := NB366_367.out
     have hnc61 := NB367_366.out
     have hnb62 := NB366_368.out
     have hnc62 := NB368_366.out
     have hnb63 := NB366_369.out
     have hnc63 := NB369_366.out
     have hcz64_0 : wc.cell? ⟨gb366, 0, none⟩ = some (.int .i64 a0_0) := (blk_cell BK366.out 0).trans rfl
     have hcz64_1 : wc.cell? ⟨gb366, 1, none⟩ = some (.int .i64 a0_1) := (blk_cell BK366.out 1).trans rfl
     have hfz64_0 := blk_frozen BK366.out 0
     have hfz64_1 := blk_frozen BK366.out 1
     have hnb65 := NB368_367.out
     have hnc65 := NB367_368.out
     have hnb66 := NB368_369.out
     have hnc66 := NB369_368.out
     have hcz67_0 : wc.cell? ⟨gb368, 0, none⟩ = some (.int .i64 a2_0) := (blk_cell BK368.out 0).trans rfl
     have hcz67_1 : wc.cell? ⟨gb368, 1, none⟩ = some (.int .i64 a2_1) := (blk_cell BK368.out 1).trans rfl
     have hfz67_0 := blk_frozen BK368.out 0
     have hfz67_1 := blk_frozen BK368.out 1
     have hnb68 := NB369_367.out
     have hnc68 := NB367_369.out
     have hcz69_0 : wc.cell? ⟨gb369, 0, none⟩ = some (.int .i64 a3_0) := (blk_cell BK369.out 0).trans rfl
     have hcz69_1 : wc.cell? ⟨gb369, 1, none⟩ = some (.int .i64 a3_1) := (blk_cell BK369.out 1).trans rfl
     have hfz69_0 := blk_frozen BK369.out 0
     have hfz69_1 := blk_frozen BK369.out 1
     rotate_left
     replace c60 := Bool.eq_false_iff.mpr c60
     subst c60
     rw [if_neg (show ¬ (false = true) by decide)] at H
     replace H := Option.bind_eq_some_iff.mp H
     obtain ⟨t375, A710, H⟩ := H
     replace H : (if t375 = true then (apogeeref10_Meet.j1 kj4 true a0_0 a0_1 a1_0 a1_1 a2_0 a2_1 a3_0 a3_1) else ((apogeeref10_On.f kj4 a2_0 a2_1 a0_0 a0_1 a1_0 a1_1).bind fun t376 => (if t376 = true then (apogeeref10_Meet.j1 kj4 true a0_0 a0_1 a1_0 a1_1 a2_0 a2_1 a3_0 a3_1) else ((apogeeref10_On.f kj4 a3_0 a3_1 a0_0 a0_1 a1_0 a1_1).bind fun t377 => (apogeeref10_Meet.j1 kj4 t377 a0_0 a0_1 a1_0 a1_1 a2_0 a2_1 a3_0 a3_1))))) = some r := H
     have A71 := bA A710
     clear A710
     by_cases c72 : t375 = true
     subst c72
     rw [if_pos rfl] at H
     have H' := bA H
     clear H
     have hnb73 := NB366_367.out
     have hnc73 := NB367_366.out
     have hnb74 := NB366_368.out
     have hnc74 := NB368_366.out
     have hnb75 := NB366_369.out
     have hnc75 := NB369_366.out
     have hcz76_0 : wc.cell? ⟨gb366, 0, none⟩ = some (.int .i64 a0_0) := (blk_cell BK366.out 0).trans rfl
     have hcz76_1 : wc.cell? ⟨gb366, 1, none⟩ = some (.int .i64 a0_1) := (blk_cell BK366.out 1).trans rfl
     have hfz76_0 := blk_frozen BK366.out 0
     have hfz76_1 := blk_frozen BK366.out 1
     have hnb77 := NB368_367.out
     have hnc77 := NB367_368.out
     have hnb78 := NB368_369.out
     have hnc78 := NB369_368.out
     have hcz79_0 : wc.cell? ⟨gb368, 0, none⟩ = some (.int .i64 a2_0) := (blk_cell BK368.out 0).trans rfl
     have hcz79_1 : wc.cell? ⟨gb368, 1, none⟩ = some (.int .i64 a2_1) := (blk_cell BK368.out 1).trans rfl
     have hfz79_0 := blk_frozen BK368.out 0
     have hfz79_1 := blk_frozen BK368.out 1
     have hnb80 := NB369_367.out
     have hnc80 := NB367_369.out
     have hcz81_0 : wc.cell? ⟨gb369, 0, none⟩ = some (.int .i64 a3_0) := (blk_cell BK369.out 0).trans rfl
     have hcz81_1 : wc.cell? ⟨gb369, 1, none⟩ = some (.int .i64 a3_1) := (blk_cell BK369.out 1).trans rfl
     have hfz81_0 := blk_frozen BK369.out 0
     have hfz81_1 := blk_frozen BK369.out 1
     rotate_left
     replace c72 := Bool.eq_false_iff.mpr c72
     subst c72
     rw [if_neg (show ¬ (false = true) by decide)] at H
     replace H := Option.bind_eq_some_iff.mp H
     obtain ⟨t376, A870, H⟩ := H
     replace H : (if t376 = true then (apogeeref10_Meet.j1 kj4 true a0_0 a0_1 a1_0 a1_1 a2_0 a2_1 a3_0 a3_1) else ((apogeeref10_On.f kj4 a3_0 a3_1 a0_0 a0_1 a1_0 a1_1).bind fun t377 => (apogeeref10_Meet.j1 kj4 t377 a0_0 a0_1 a1_0 a1_1 a2_0 a2_1 a3_0 a3_1))) = some r := H
     have A87 := bA A870
     clear A870
     by_cases c88 : t376 = true
     subst c88
     rw [if_pos rfl] at H
     have H' := bA H
     clear H
     have hnb89 := NB366_367.out
     have hnc89 := NB367_366.out
     have hnb90 := NB366_368.out
     have hnc90 := NB368_366.out
     have hnb91 := NB366_369.out
     have hnc91 := NB369_366.out
     have hcz92_0 : wc.cell? ⟨gb366, 0, none⟩ = some (.int .i64 a0_0) := (blk_cell BK366.out 0).trans rfl
     have hcz92_1 : wc.cell? ⟨gb366, 1, none⟩ = some (.int .i64 a0_1) := (blk_cell BK366.out 1).trans rfl
     have hfz92_0 := blk_frozen BK366.out 0
     have hfz92_1 := blk_frozen BK366.out 1
     have hnb93 := NB368_367.out
     have hnc93 := NB367_368.out
     have hnb94 := NB368_369.out
     have hnc94 := NB369_368.out
     have hcz95_0 : wc.cell? ⟨gb368, 0, none⟩ = some (.int .i64 a2_0) := (blk_cell BK368.out 0).trans rfl
     have hcz95_1 : wc.cell? ⟨gb368, 1, none⟩ = some (.int .i64 a2_1) := (blk_cell BK368.out 1).trans rfl
     have hfz95_0 := blk_frozen BK368.out 0
     have hfz95_1 := blk_frozen BK368.out 1
     have hnb96 := NB369_367.out
     have hnc96 := NB367_369.out
     have hcz97_0 : wc.cell? ⟨gb369, 0, none⟩ = some (.int .i64 a3_0) := (blk_cell BK369.out 0).trans rfl
     have hcz97_1 : wc.cell? ⟨gb369, 1, none⟩ = some (.int .i64 a3_1) := (blk_cell BK369.out 1).trans rfl
     have hfz97_0 := blk_frozen BK369.out 0
     have hfz97_1 := blk_frozen BK369.out 1
     rotate_left
     replace c88 := Bool.eq_false_iff.mpr c88
     subst c88
     rw [if_neg (show ¬ (false = true) by decide)] at H
     replace H := Option.bind_eq_some_iff.mp H
     obtain ⟨t377, A1070, H⟩ := H
     replace H : (apogeeref10_Meet.j1 kj4 t377 a0_0 a0_1 a1_0 a1_1 a2_0 a2_1 a3_0 a3_1) = some r := H
     have A107 := bA A1070
     clear A1070
     have H' := bA H
     clear H
     have hnb108 := NB366_367.out
     have hnc108 := NB367_366.out
     have hnb109 := NB366_368.out
     have hnc109 := NB368_366.out
     have hnb110 := NB366_369.out
     have hnc110 := NB369_366.out
     have hcz111_0 : wc.cell? ⟨gb366, 0, none⟩ = some (.int .i64 a0_0) := (blk_cell BK366.out 0).trans rfl
     have hcz111_1 : wc.cell? ⟨gb366, 1, none⟩ = some (.int .i64 a0_1) := (blk_cell BK366.out 1).trans rfl
     have hfz111_0 := blk_frozen BK366.out 0
     have hfz111_1 := blk_frozen BK366.out 1
     have hnb112 := NB368_367.out
     have hnc112 := NB367_368.out
     have hnb113 := NB368_369.out
     have hnc113 := NB369_368.out
     have hcz114_0 : wc.cell? ⟨gb368, 0, none⟩ = some (.int .i64 a2_0) := (blk_cell BK368.out 0).trans rfl
     have hcz114_1 : wc.cell? ⟨gb368, 1, none⟩ = some (.int .i64 a2_1) := (blk_cell BK368.out 1).trans rfl
     have hfz114_0 := blk_frozen BK368.out 0
     have hfz114_1 := blk_frozen BK368.out 1
     have hnb115 := NB369_367.out
     have hnc115 := NB367_369.out
     have hcz116_0 : wc.cell? ⟨gb369, 0, none⟩ = some (.int .i64 a3_0) := (blk_cell BK369.out 0).trans rfl
     have hcz116_1 : wc.cell? ⟨gb369, 1, none⟩ = some (.int .i64 a3_1) := (blk_cell BK369.out 1).trans rfl
     have hfz116_0 := blk_frozen BK369.out 0
     have hfz116_1 := blk_frozen BK369.out 1
     rotate_left
     all_goals go_wp2_with (first | ((first | ((with_reducible refine gate_callee (f := 21) rfl ?_); refine bC (some 30) Try.func21 #[.agg #[.int .i64 a0_0, .int .i64 a0_1], .agg #[.int .i64 a2_0, .int .i64 a2_1], .agg #[.int .i64 a3_0, .int .i64 a3_1]] ?_) | go_at_call 21); (with_reducible refine (apogeeref10_On.calls kj4 a0_0 a0_1 a2_0 a2_1 a3_0 a3_1 true _ A59.out).mono ?_); rintro e wz0 ⟨rfl, hb⟩; (first | refine ⟨_, rfl, ?_⟩ | skip); have n0_ := bA (bB BK366 hb); have n1_ := bA (bB BK367 hb); have n2_ := bA (bB BK368 hb); have n3_ := bA (bB BK369 hb); have n4_ := bA (bS hb); clear BK366; clear BK367; clear BK368; clear BK369; clear HB; have BK366 := n0_; have BK367 := n1_; have BK368 := n2_; have BK369 := n3_; have HB := n4_; clear n0_ n1_ n2_ n3_ n4_; (try clear hb); (try clear hb2); (try clear hk); (try clear hi)) | ((first | ((with_reducible refine gate_callee (f := 21) rfl ?_); refine bC (some 30) Try.func21 #[.agg #[.int .i64 a0_0, .int .i64 a0_1], .agg #[.int .i64 a2_0, .int .i64 a2_1], .agg #[.int .i64 a3_0, .int .i64 a3_1]] ?_) | go_at_call 21); (with_reducible refine (apogeeref10_On.calls kj4 a0_0 a0_1 a2_0 a2_1 a3_0 a3_1 false _ A59.out).mono ?_); rintro e wz0 ⟨rfl, hb⟩; (first | refine ⟨_, rfl, ?_⟩ | skip); have n0_ := bA (bB BK366 hb); have n1_ := bA (bB BK367 hb); have n2_ := bA (bB BK368 hb); have n3_ := bA (bB BK369 hb); have n4_ := bA (bS hb); clear BK366; clear BK367; clear BK368; clear BK369; clear HB; have BK366 := n0_; have BK367 := n1_; have BK368 := n2_; have BK369 := n3_; have HB := n4_; clear n0_ n1_ n2_ n3_ n4_; (try clear hb); (try clear hb2); (try clear hk); (try clear hi); have hz1 : wz0.cell? ⟨gb367, 0, none⟩ = some (.int .i64 a1_0) := (blk_cell BK367.out 0).trans rfl; have hz2 : wz0.cell? ⟨gb367, 1, none⟩ = some (.int .i64 a1_1) := (blk_cell BK367.out 1).trans rfl; have hz3 := blk_frozen BK367.out 0; have hz4 := blk_frozen BK367.out 1; have hz5 : wz0.cell? ⟨gb368, 0, none⟩ = some (.int .i64 a2_0) := (blk_cell BK368.out 0).trans rfl; have hz6 : wz0.cell? ⟨gb368, 1, none⟩ = some (.int .i64 a2_1) := (blk_cell BK368.out 1).trans rfl; have hz7 := blk_frozen BK368.out 0; have hz8 := blk_frozen BK368.out 1; have hz9 : wz0.cell? ⟨gb369, 0, none⟩ = some (.int .i64 a3_0) := (blk_cell BK369.out 0).trans rfl; have hz10 : wz0.cell? ⟨gb369, 1, none⟩ = some (.int .i64 a3_1) := (blk_cell BK369.out 1).trans rfl; have hz11 := blk_frozen BK369.out 0; have hz12 := blk_frozen BK369.out 1) | (go_at_call 21; (with_reducible refine (apogeeref10_On.calls kj4 a1_0 a1_1 a2_0 a2_1 a3_0 a3_1 true _ A71.out).mono ?_); rintro e wz1 ⟨rfl, hb⟩; have n0_ := bA (bB BK366 hb); have n1_ := bA (bB BK367 hb); have n2_ := bA (bB BK368 hb); have n3_ := bA (bB BK369 hb); have n4_ := bA (bS hb); clear BK366; clear BK367; clear BK368; clear BK369; clear HB; have BK366 := n0_; have BK367 := n1_; have BK368 := n2_; have BK369 := n3_; have HB := n4_; clear n0_ n1_ n2_ n3_ n4_; (try clear hb); (try clear hb2); (try clear hk); (try clear hi)) | (go_at_call 21; (with_reducible refine (apogeeref10_On.calls kj4 a1_0 a1_1 a2_0 a2_1 a3_0 a3_1 false _ A71.out).mono ?_); rintro e wz1 ⟨rfl, hb⟩; have n0_ := bA (bB BK366 hb); have n1_ := bA (bB BK367 hb); have n2_ := bA (bB BK368 hb); have n3_ := bA (bB BK369 hb); have n4_ := bA (bS hb); clear BK366; clear BK367; clear BK368; clear BK369; clear HB; have BK366 := n0_; have BK367 := n1_; have BK368 := n2_; have BK369 := n3_; have HB := n4_; clear n0_ n1_ n2_ n3_ n4_; (try clear hb); (try clear hb2); (try clear hk); (try clear hi); have hz13 : wz1.cell? ⟨gb368, 0, none⟩ = some (.int .i64 a2_0) := (blk_cell BK368.out 0).trans rfl; have hz14 : wz1.cell? ⟨gb368, 1, none⟩ = some (.int .i64 a2_1) := (blk_cell BK368.out 1).trans rfl; have hz7 := blk_frozen BK368.out 0; have hz8 := blk_frozen BK368.out 1; have hz15 : wz1.cell? ⟨gb366, 0, none⟩ = some (.int .i64 a0_0) := (blk_cell BK366.out 0).trans rfl; have hz16 : wz1.cell? ⟨gb366, 1, none⟩ = some (.int .i64 a0_1) := (blk_cell BK366.out 1).trans rfl; have hz17 := blk_frozen BK366.out 0; have hz18 := blk_frozen BK366.out 1; have hz19 : wz1.cell? ⟨gb367, 0, none⟩ = some (.int .i64 a1_0) := (blk_cell BK367.out 0).trans rfl; have hz20 : wz1.cell? ⟨gb367, 1, none⟩ = some (.int .i64 a1_1) := (blk_cell BK367.out 1).trans rfl; have hz3 := blk_frozen BK367.out 0; have hz4 := blk_frozen BK367.out 1) | (go_at_call 21; (with_reducible refine (apogeeref10_On.calls kj4 a2_0 a2_1 a0_0 a0_1 a1_0 a1_1 true _ A87.out).mono ?_); rintro e wz2 ⟨rfl, hb⟩; have n0_ := bA (bB BK366 hb); have n1_ := bA (bB BK367 hb); have n2_ := bA (bB BK368 hb); have n3_ := bA (bB BK369 hb); have n4_ := bA (bS hb); clear BK366; clear BK367; clear BK368; clear BK369; clear HB; have BK366 := n0_; have BK367 := n1_; have BK368 := n2_; have BK369 := n3_; have HB := n4_; clear n0_ n1_ n2_ n3_ n4_; (try clear hb); (try clear hb2); (try clear hk); (try clear hi)) | (go_at_call 21; (with_reducible refine (apogeeref10_On.calls kj4 a2_0 a2_1 a0_0 a0_1 a1_0 a1_1 false _ A87.out).mono ?_); rintro e wz2 ⟨rfl, hb⟩; have n0_ := bA (bB BK366 hb); have n1_ := bA (bB BK367 hb); have n2_ := bA (bB BK368 hb); have n3_ := bA (bB BK369 hb); have n4_ := bA (bS hb); clear BK366; clear BK367; clear BK368; clear BK369; clear HB; have BK366 := n0_; have BK367 := n1_; have BK368 := n2_; have BK369 := n3_; have HB := n4_; clear n0_ n1_ n2_ n3_ n4_; (try clear hb); (try clear hb2); (try clear hk); (try clear hi); have hz21 : wz2.cell? ⟨gb369, 0, none⟩ = some (.int .i64 a3_0) := (blk_cell BK369.out 0).trans rfl; have hz22 : wz2.cell? ⟨gb369, 1, none⟩ = some (.int .i64 a3_1) := (blk_cell BK369.out 1).trans rfl; have hz11 := blk_frozen BK369.out 0; have hz12 := blk_frozen BK369.out 1; have hz23 : wz2.cell? ⟨gb366, 0, none⟩ = some (.int .i64 a0_0) := (blk_cell BK366.out 0).trans rfl; have hz24 : wz2.cell? ⟨gb366, 1, none⟩ = some (.int .i64 a0_1) := (blk_cell BK366.out 1).trans rfl; have hz17 := blk_frozen BK366.out 0; have hz18 := blk_frozen BK366.out 1; have hz25 : wz2.cell? ⟨gb367, 0, none⟩ = some (.int .i64 a1_0) := (blk_cell BK367.out 0).trans rfl; have hz26 : wz2.cell? ⟨gb367, 1, none⟩ = some (.int .i64 a1_1) := (blk_cell BK367.out 1).trans rfl; have hz3 := blk_frozen BK367.out 0; have hz4 := blk_frozen BK367.out 1) | (go_at_call 21; (with_reducible refine (apogeeref10_On.calls kj4 a3_0 a3_1 a0_0 a0_1 a1_0 a1_1 t377 _ A107.out).mono ?_); rintro e wz3 ⟨rfl, hb⟩; have n0_ := bA (bB BK366 hb); have n1_ := bA (bB BK367 hb); have n2_ := bA (bB BK368 hb); have n3_ := bA (bB BK369 hb); have n4_ := bA (bS hb); clear BK366; clear BK367; clear BK368; clear BK369; clear HB; have BK366 := n0_; have BK367 := n1_; have BK368 := n2_; have BK369 := n3_; have HB := n4_; clear n0_ n1_ n2_ n3_ n4_; (try clear hb); (try clear hb2); (try clear hk); (try clear hi)))
     ·go_meet
      case rel => exact ⟨_, (true), (by first | rfl | (simp; done) | (simp [*]; done)), H', ⟨by have := HJ4.out; first | omega | exact Nat.le_refl _⟩, ⟨by (with_reducible repeat (first | refine blk_drewN ?_ _ | refine blk_drew ?_ | refine blk_alloc ?_ _)); exact BK366.out⟩, ⟨by (with_reducible repeat (first | refine blk_drewN ?_ _ | refine blk_drew ?_ | refine blk_alloc ?_ _)); exact BK367.out⟩, ⟨by (with_reducible repeat (first | refine blk_drewN ?_ _ | refine blk_drew ?_ | refine blk_alloc ?_ _)); exact BK368.out⟩, ⟨by (with_reducible repeat (first | refine blk_drewN ?_ _ | refine blk_drew ?_ | refine blk_alloc ?_ _)); exact BK369.out⟩, ⟨bX⟩⟩
     ·go_meet
      case rel => exact ⟨_, (true), (by first | rfl | (simp; done) | (simp [*]; done)), H', ⟨by have := HJ4.out; first | omega | exact Nat.le_refl _⟩, ⟨by (with_reducible repeat (first | refine blk_drewN ?_ _ | refine blk_drew ?_ | refine blk_alloc ?_ _)); exact BK366.out⟩, ⟨by (with_reducible repeat (first | refine blk_drewN ?_ _ | refine blk_drew ?_ | refine blk_alloc ?_ _)); exact BK367.out⟩, ⟨by (with_reducible repeat (first | refine blk_drewN ?_ _ | refine blk_drew ?_ | refine blk_alloc ?_ _)); exact BK368.out⟩, ⟨by (with_reducible repeat (first | refine blk_drewN ?_ _ | refine blk_drew ?_ | refine blk_alloc ?_ _)); exact BK369.out⟩, ⟨bX⟩⟩
     ·go_meet
      case rel => exact ⟨_, (true), (by first | rfl | (simp; done) | (simp [*]; done)), H', ⟨by have := HJ4.out; first | omega | exact Nat.le_refl _⟩, ⟨by (with_reducible repeat (first | refine blk_drewN ?_ _ | refine blk_drew ?_ | refine blk_alloc ?_ _)); exact BK366.out⟩, ⟨by (with_reducible repeat (first | refine blk_drewN ?_ _ | refine blk_drew ?_ | refine blk_alloc ?_ _)); exact BK367.out⟩, ⟨by (with_reducible repeat (first | refine blk_drewN ?_ _ | refine blk_drew ?_ | refine blk_alloc ?_ _)); exact BK368.out⟩, ⟨by (with_reducible repeat (first | refine blk_drewN ?_ _ | refine blk_drew ?_ | refine blk_alloc ?_ _)); exact BK369.out⟩, ⟨bX⟩⟩
     ·go_meet
      case rel => exact ⟨_, (t377), (by first | rfl | (simp; done) | (simp [*]; done)), H', ⟨by have := HJ4.out; first | omega | exact Nat.le_refl _⟩, ⟨by (with_reducible repeat (first | refine blk_drewN ?_ _ | refine blk_drew ?_ | refine blk_alloc ?_ _)); exact BK366.out⟩, ⟨by (with_reducible repeat (first | refine blk_drewN ?_ _ | refine blk_drew ?_ | refine blk_alloc ?_ _)); exact BK367.out⟩, ⟨by (with_reducible repeat (first | refine blk_drewN ?_ _ | refine blk_drew ?_ | refine blk_alloc ?_ _)); exact BK368.out⟩, ⟨by (with_reducible repeat (first | refine blk_drewN ?_ _ | refine blk_drew ?_ | refine blk_alloc ?_ _)); exact BK369.out⟩, ⟨bX⟩⟩
    case rest =>
     clear HC58
     try clear c1
     try clear c2
     try clear p2
     try clear c3
     try clear c4
     try clear c5
     try clear c6
     try clear c7
     try clear c8
     try clear c9
     try clear c10
     try clear c11
     try clear c13
     try clear c15
     try clear c17
     try clear c18
     try clear c19
     try clear c21
     try clear c22
     try clear c23
     try clear c26
     try clear c31
     try clear c32
     try clear c33
     try clear c36
     try clear c37
     try clear c40
     try clear c43
     try clear c44
     try clear c45
     try clear c48
     try clear c49
     try clear c52
     try clear c53
     try clear c54
     try clear c57
     try clear c60
     try clear c61
     try clear c62
     try clear c63
     try clear c65
     try clear c66
     try clear c68
     try clear c72
     try clear c73
     try clear c74
     try clear c75
     try clear c77
     try clear c78
     try clear c80
     try clear c88
     try clear c89
     try clear c90
     try clear c91
     try clear c93
     try clear c94
     try clear c96
     try clear c108
     try clear c109
     try clear c110
     try clear c112
     try clear c113
     try clear c115
     try clear hcz100_0
     try clear hcz100_1
     try clear hcz101_0
     try clear hcz101_1
     try clear hcz103_0
     try clear hcz103_1
     try clear hcz104_0
     try clear hcz104_1
     try clear hcz105_0
     try clear hcz105_1
     try clear hcz111_0
     try clear hcz111_1
     try clear hcz114_0
     try clear hcz114_1
     try clear hcz116_0
     try clear hcz116_1
     try clear hcz118_0
     try clear hcz118_1
     try clear hcz119_0
     try clear hcz119_1
     try clear hcz120_0
     try clear hcz120_1
     try clear hcz122_0
     try clear hcz122_1
     try clear hcz123_0
     try clear hcz123_1
     try clear hcz124_0
     try clear hcz124_1
     try clear hcz126_0
     try clear hcz126_1
     try clear hcz127_0
     try clear hcz127_1
     try clear hcz128_0
     try clear hcz128_1
     try clear hcz20_0
     try clear hcz20_1
     try clear hcz24_0
     try clear hcz24_1
     try clear hcz27_0
     try clear hcz27_1
     try clear hcz29_0
     try clear hcz29_1
     try clear hcz34_0
     try clear hcz34_1
     try clear hcz38_0
     try clear hcz38_1
     try clear hcz41_0
     try clear hcz41_1
     try clear hcz46_0
     try clear hcz46_1
     try clear hcz50_0
     try clear hcz50_1
     try clear hcz55_0
     try clear hcz55_1
     try clear hcz64_0
     try clear hcz64_1
     try clear hcz67_0
     try clear hcz67_1
     try clear hcz69_0
     try clear hcz69_1
     try clear hcz76_0
     try clear hcz76_1
     try clear hcz79_0
     try clear hcz79_1
     try clear hcz81_0
     try clear hcz81_1
     try clear hcz83_0
     try clear hcz83_1
     try clear hcz84_0
     try clear hcz84_1
     try clear hcz85_0
     try clear hcz85_1
     try clear hcz92_0
     try clear hcz92_1
     try clear hcz95_0
     try clear hcz95_1
     try clear hcz97_0
     try clear hcz97_1
     try clear hcz99_0
     try clear hcz99_1
     try clear hfz100_0
     try clear hfz100_1
     try clear hfz101_0
     try clear hfz101_1
     try clear hfz103_0
     try clear hfz103_1
     try clear hfz104_0
     try clear hfz104_1
     try clear hfz105_0
     try clear hfz105_1
     try clear hfz111_0
     try clear hfz111_1
     try clear hfz114_0
     try clear hfz114_1
     try clear hfz116_0
     try clear hfz116_1
     try clear hfz118_0
     try clear hfz118_1
     try clear hfz119_0
     try clear hfz119_1
     try clear hfz120_0
     try clear hfz120_1
     try clear hfz122_0
     try clear hfz122_1
     try clear hfz123_0
     try clear hfz123_1
     try clear hfz124_0
     try clear hfz124_1
     try clear hfz126_0
     try clear hfz126_1
     try clear hfz127_0
     try clear hfz127_1
     try clear hfz128_0
     try clear hfz128_1
     try clear hfz20_0
     try clear hfz20_1
     try clear hfz24_0
     try clear hfz24_1
     try clear hfz27_0
     try clear hfz27_1
     try clear hfz29_0
     try clear hfz29_1
     try clear hfz34_0
     try clear hfz34_1
     try clear hfz38_0
     try clear hfz38_1
     try clear hfz41_0
     try clear hfz41_1
     try clear hfz46_0
     try clear hfz46_1
     try clear hfz50_0
     try clear hfz50_1
     try clear hfz55_0
     try clear hfz55_1
     try clear hfz64_0
     try clear hfz64_1
     try clear hfz67_0
     try clear hfz67_1
     try clear hfz69_0
     try clear hfz69_1
     try clear hfz76_0
     try clear hfz76_1
     try clear hfz79_0
     try clear hfz79_1
     try clear hfz81_0
     try clear hfz81_1
     try clear hfz83_0
     try clear hfz83_1
     try clear hfz84_0
     try clear hfz84_1
     try clear hfz85_0
     try clear hfz85_1
     try clear hfz92_0
     try clear hfz92_1
     try clear hfz95_0
     try clear hfz95_1
     try clear hfz97_0
     try clear hfz97_1
     try clear hfz99_0
     try clear hfz99_1
     try clear p2
     obtain ⟨kq, x48_57, rfl, HA, HJ57, BK366, BK367, BK368, BK369, HB⟩ := hcut
     cases kq with
     | zero => exact absurd HA.out (by simp [apogeeref10_Meet.j1])
     | succ kj57 =>
      have H := HA.out
      clear HA
      simp only [apogeeref10_Meet.j1] at H
      by_cases c130 : x48_57 = true
      ·subst c130
       rw [if_pos rfl] at H
       obtain rfl := Option.some.inj H
       go_wp2
       go_ret
       exact bF
      ·replace c130 := Bool.eq_false_iff.mpr c130
       subst c130
       rw [if_neg (show ¬ (false = true) by decide)] at H
       replace H := Option.bind_eq_some_iff.mp H
       obtain ⟨t378, A1310, H⟩ := H
       replace H : ((apogeeref10_Turn.f kj57 a0_0 a0_1 a1_0 a1_1 a3_0 a3_1).bind fun t379 => (if (wrap64 (t378 * t379)) < 0 then ((apogeeref10_Turn.f kj57 a2_0 a2_1 a3_0 a3_1 a0_0 a0_1).bind fun t380 => ((apogeeref10_Turn.f kj57 a2_0 a2_1 a3_0 a3_1 a1_0 a1_1).bind fun t381 => (some (decide ((wrap64 (t380 * t381)) < 0))))) else (some false))) = some r := H
       have A131 := bA A1310
       clear A1310
       replace H := Option.bind_eq_some_iff.mp H
       obtain ⟨t379, A1320, H⟩ := H
       replace H : (if (wrap64 (t378 * t379)) < 0 then ((apogeeref10_Turn.f kj57 a2_0 a2_1 a3_0 a3_1 a0_0 a0_1).bind fun t380 => ((apogeeref10_Turn.f kj57 a2_0 a2_1 a3_0 a3_1 a1_0 a1_1).bind fun t381 => (some (decide ((wrap64 (t380 * t381)) < 0))))) else (some false)) = some r := H
       have A132 := bA A1320
       clear A1320
       by_cases c133 : (wrap64 (t378 * t379)) < 0
       ·rw [if_pos c133] at H
        have c133b0 : decide ((wrap64 (t378 * t379)) < 0) = true := decide_eq_true c133
        clear c133
        replace H := Option.bind_eq_some_iff.mp H
        obtain ⟨t380, A1340, H⟩ := H
        replace H : ((apogeeref10_Turn.f kj57 a2_0 a2_1 a3_0 a3_1 a1_0 a1_1).bind fun t381 => (some (decide ((wrap64 (t380 * t381)) < 0)))) = some r := H
        have A134 := bA A1340
        clear A1340
        replace H := Option.bind_eq_some_iff.mp H
        obtain ⟨t381, A1350, H⟩ := H
        replace H : (some (decide ((wrap64 (t380 * t381)) < 0))) = some r := H
        have A135 := bA A1350
        clear A1350
        obtain rfl := Option.some.inj H
        try go_wp2
        have n0_ := bA (blk_drew BK366.out)
        have n1_ := bA (blk_drew BK367.out)
        have n2_ := bA (blk_drew BK368.out)
        have n3_ := bA (blk_drew BK369.out)
        have n4_ := bA (below_drew1 HB.out)
        clear BK366
        clear BK367
        clear BK368
        clear BK369
        clear HB
        have BK366 := n0_
        have BK367 := n1_
        have BK368 := n2_
        have BK369 := n3_
        have HB := n4_
        clear n0_ n1_ n2_ n3_ n4_
        refine start_ (n := 23) (S := fun w' => w'.cell? ⟨gb366, 0, none⟩ = some (.int .i64 a0_0) ∧ w'.cell? ⟨gb366, 1, none⟩ = some (.int .i64 a0_1) ∧ w'.cell? ⟨gb367, 0, none⟩ = some (.int .i64 a1_0) ∧ w'.cell? ⟨gb367, 1, none⟩ = some (.int .i64 a1_1) ∧ w'.cell? ⟨gb368, 0, none⟩ = some (.int .i64 a2_0) ∧ w'.cell? ⟨gb368, 1, none⟩ = some (.int .i64 a2_1) ∧ w'.cell? ⟨gb369, 0, none⟩ = some (.int .i64 a3_0) ∧ w'.cell? ⟨gb369, 1, none⟩ = some (.int .i64 a3_1)) (ds := []) #[false, false, false, false, false, false, false, false, false, false, false, false, false, false, false, false, false, false, false, false, false, false, false] (by kernel_rfl) rfl rfl ⟨(blk_cell BK366.out 0).trans rfl, (blk_cell BK366.out 1).trans rfl, (blk_cell BK367.out 0).trans rfl, (blk_cell BK367.out 1).trans rfl, (blk_cell BK368.out 0).trans rfl, (blk_cell BK368.out 1).trans rfl, (blk_cell BK369.out 0).trans rfl, (blk_cell BK369.out 1).trans rfl⟩ (fun hHeld => ?_); refine with_tabW apogeeref10_Meet.tab5 apogeeref10_Meet.bits5 (fun HT_ HW_ => ?_)
        generalize wc.drew = w136 at BK366 BK367 BK368 BK369 HB hHeld ⊢
        refine take_ (i := 0) (N := some 49) (v := ?_) (a' := ?_) #[true, false, false, false, false, false, false, false, false, false, false, false, false, false, false, false, false, false, false, false, false, false, false] rfl rfl (take_ofW HT_.out HW_.out (by kernel_rfl)) (fun _ _ _ h => h) (Or.inl ⟨by rfl, ?_⟩) hHeld ?_ ?_
        rotate_left
        ·rintro w' ⟨s0, s1, s2, s3, s4, s5, s6, s7⟩
         go_simp
         with_reducible rfl
        rotate_left
        ·simp only [Act.put, List.setIfInBounds_toArray, List.set_cons_zero, List.set_cons_succ, i64_w, i32_w]
         rfl
        refine take_ (i := 1) (N := some 50) (v := ?_) (a' := ?_) #[true, true, false, false, false, false, false, false, false, false, false, false, false, false, false, false, false, false, false, false, false, false, false] rfl rfl (take_ofW HT_.out HW_.out (by kernel_rfl)) (fun _ _ _ h => h) (Or.inl ⟨by rfl, ?_⟩) hHeld ?_ ?_
        rotate_left
        ·rintro w' ⟨s0, s1, s2, s3, s4, s5, s6, s7⟩
         go_simp
         with_reducible rfl
        rotate_left
        ·simp only [Act.put, List.setIfInBounds_toArray, List.set_cons_zero, List.set_cons_succ, i64_w, i32_w]
         rfl
        refine take_ (i := 2) (N := some 51) (v := ?_) (a' := ?_) #[true, true, true, false, false, false, false, false, false, false, false, false, false, false, false, false, false, false, false, false, false, false, false] rfl rfl (take_ofW HT_.out HW_.out (by kernel_rfl)) (fun _ _ _ h => h) (Or.inl ⟨by rfl, ?_⟩) hHeld ?_ ?_
        rotate_left
        ·rintro w' ⟨s0, s1, s2, s3, s4, s5, s6, s7⟩
         go_simp
         with_reducible rfl
        rotate_left
        ·simp only [Act.put, List.setIfInBounds_toArray, List.set_cons_zero, List.set_cons_succ, i64_w, i32_w]
         rfl
        refine take_ (i := 4) (N := some 53) (v := ?_) (a' := ?_) #[true, true, true, false, true, false, false, false, false, false, false, false, false, false, false, false, false, false, false, false, false, false, false] rfl rfl (take_ofW HT_.out HW_.out (by kernel_rfl)) (fun _ _ _ h => h) (Or.inl ⟨by rfl, ?_⟩) hHeld ?_ ?_
        rotate_left
        ·rintro w' ⟨s0, s1, s2, s3, s4, s5, s6, s7⟩
         go_simp
         with_reducible rfl
        rotate_left
        ·simp only [Act.put, List.setIfInBounds_toArray, List.set_cons_zero, List.set_cons_succ, i64_w, i32_w]
         rfl
        refine take_ (i := 5) (N := some 54) (v := ?_) (a' := ?_) #[true, true, true, false, true, true, false, false, false, false, false, false, false, false, false, false, false, false, false, false, false, false, false] rfl rfl (take_ofW HT_.out HW_.out (by kernel_rfl)) (fun _ _ _ h => h) (Or.inl ⟨by rfl, ?_⟩) hHeld ?_ ?_
        rotate_left
        ·rintro w' ⟨s0, s1, s2, s3, s4, s5, s6, s7⟩
         go_simp
         with_reducible rfl
        rotate_left
        ·simp only [Act.put, List.setIfInBounds_toArray, List.set_cons_zero, List.set_cons_succ, i64_w, i32_w]
         rfl
        refine take_ (i := 6) (N := some 55) (v := ?_) (a' := ?_) #[true, true, true, false, true, true, true, false, false, false, false, false, false, false, false, false, false, false, false, false, false, false, false] rfl rfl (take_ofW HT_.out HW_.out (by kernel_rfl)) (fun _ _ _ h => h) (Or.inl ⟨by rfl, ?_⟩) hHeld ?_ ?_
        rotate_left
        ·rintro w' ⟨s0, s1, s2, s3, s4, s5, s6, s7⟩
         go_simp
         with_reducible rfl
        rotate_left
        ·simp only [Act.put, List.setIfInBounds_toArray, List.set_cons_zero, List.set_cons_succ, i64_w, i32_w]
         rfl
        refine one_ (i := 3) (N := some 52) #[true, true, true, true, true, true, true, false, false, false, false, false, false, false, false, false, false, false, false, false, false, false, false] rfl rfl (one_of HT_.out (by kernel_rfl)) (by decide) (fun K hK => ?_)
        refine goes_ Try.func19 (by kernel_rfl) rfl #[.agg #[.int .i64 a0_0, .int .i64 a0_1], .agg #[.int .i64 a1_0, .int .i64 a1_1], .agg #[.int .i64 a2_0, .int .i64 a2_1]] (by rfl) rfl rfl (by (try simp only [List.map_toArray, List.map_cons, List.map_nil]); first | done | rfl | (simp only [List.length_drop, List.length_take]; rfl)) ?_
        with_reducible refine (apogeeref10_Turn.calls kj57 a0_0 a0_1 a1_0 a1_1 a2_0 a2_1 t378 _ A131.out).mono ?_
        rintro e w137 ⟨rfl, hb⟩
        refine ⟨_, rfl, ?_⟩
        have n0_ := bA (bB BK366 hb)
        have n1_ := bA (bB BK367 hb)
        have n2_ := bA (bB BK368 hb)
        have n3_ := bA (bB BK369 hb)
        have n4_ := bA (bS hb)
        clear BK366
        clear BK367
        clear BK368
        clear BK369
        clear HB
        have BK366 := n0_
        have BK367 := n1_
        have BK368 := n2_
        have BK369 := n3_
        have HB := n4_
        clear n0_ n1_ n2_ n3_ n4_
        (try clear hb)
        (try clear hb2)
        (try clear hk)
        (try clear hi)
        refine hK.out _ _ ⟨(blk_cell BK366.out 0).trans rfl, (blk_cell BK366.out 1).trans rfl, (blk_cell BK367.out 0).trans rfl, (blk_cell BK367.out 1).trans rfl, (blk_cell BK368.out 0).trans rfl, (blk_cell BK368.out 1).trans rfl, (blk_cell BK369.out 0).trans rfl, (blk_cell BK369.out 1).trans rfl⟩ (fun hHeld => ?_)
        clear hK K
        refine norm_ (a' := ?_) ?_ ?_
        rotate_left
        ·show Act.put _ (some 52) _ = _
         simp only [Act.put, List.setIfInBounds_toArray, List.set_cons_zero, List.set_cons_succ, i64_w, i32_w]
         rfl
        refine one_ (i := 7) (N := some 56) #[true, true, true, true, true, true, true, true, false, false, false, false, false, false, false, false, false, false, false, false, false, false, false] rfl rfl (one_of HT_.out (by kernel_rfl)) (by decide) (fun K hK => ?_)
        refine goes_ Try.func19 (by kernel_rfl) rfl #[.agg #[.int .i64 a0_0, .int .i64 a0_1], .agg #[.int .i64 a1_0, .int .i64 a1_1], .agg #[.int .i64 a3_0, .int .i64 a3_1]] (by rfl) rfl rfl (by (try simp only [List.map_toArray, List.map_cons, List.map_nil]); first | done | rfl | (simp only [List.length_drop, List.length_take]; rfl)) ?_
        with_reducible refine (apogeeref10_Turn.calls kj57 a0_0 a0_1 a1_0 a1_1 a3_0 a3_1 t379 _ A132.out).mono ?_
        rintro e w138 ⟨rfl, hb⟩
        refine ⟨_, rfl, ?_⟩
        have n0_ := bA (bB BK366 hb)
        have n1_ := bA (bB BK367 hb)
        have n2_ := bA (bB BK368 hb)
        have n3_ := bA (bB BK369 hb)
        have n4_ := bA (bS hb)
        clear BK366
        clear BK367
        clear BK368
        clear BK369
        clear HB
        have BK366 := n0_
        have BK367 := n1_
        have BK368 := n2_
        have BK369 := n3_
        have HB := n4_
        clear n0_ n1_ n2_ n3_ n4_
        (try clear hb)
        (try clear hb2)
        (try clear hk)
        (try clear hi)
        refine hK.out _ _ ⟨(blk_cell BK366.out 0).trans rfl, (blk_cell BK366.out 1).trans rfl, (blk_cell BK367.out 0).trans rfl, (blk_cell BK367.out 1).trans rfl, (blk_cell BK368.out 0).trans rfl, (blk_cell BK368.out 1).trans rfl, (blk_cell BK369.out 0).trans rfl, (blk_cell BK369.out 1).trans rfl⟩ (fun hHeld => ?_)
        clear hK K
        refine norm_ (a' := ?_) ?_ ?_
        rotate_left
        ·show Act.put _ (some 56) _ = _
         simp only [Act.put, List.setIfInBounds_toArray, List.set_cons_zero, List.set_cons_succ, i64_w, i32_w]
         rfl
        refine pure_ (i := 8) (N := some 57) (v := ?_) (a' := ?_) #[true, true, true, true, true, true, true, true, true, false, false, false, false, false, false, false, false, false, false, false, false, false, false] rfl rfl (any_of HT_.out (by kernel_rfl)) (fun _ _ _ h => h) (Or.inl ⟨by rfl, ?_⟩) ?_ ?_
        rotate_left
        ·intro w'
         go_simp
         with_reducible rfl
        rotate_left
        ·simp only [Act.put, List.setIfInBounds_toArray, List.set_cons_zero, List.set_cons_succ, i64_w, i32_w]
         rfl
        refine pure_ (i := 9) (N := some 58) (v := ?_) (a' := ?_) #[true, true, true, true, true, true, true, true, true, true, false, false, false, false, false, false, false, false, false, false, false, false, false] rfl rfl (any_of HT_.out (by kernel_rfl)) (fun _ _ _ h => h) (Or.inl ⟨by rfl, ?_⟩) ?_ ?_
        rotate_left
        ·intro w'
         go_simp
         with_reducible rfl
        rotate_left
        ·simp only [Act.put, List.setIfInBounds_toArray, List.set_cons_zero, List.set_cons_succ, i64_w, i32_w]
         rfl
        refine pure_ (i := 10) (N := some 59) (v := ?_) (a' := ?_) #[true, true, true, true, true, true, true, true, true, true, true, false, false, false, false, false, false, false, false, false, false, false, false] rfl rfl (any_of HT_.out (by kernel_rfl)) (fun _ _ _ h => h) (Or.inl ⟨by rfl, ?_⟩) ?_ ?_
        rotate_left
        ·intro w'
         go_simp
         with_reducible rfl
        rotate_left
        ·simp only [Act.put, List.setIfInBounds_toArray, List.set_cons_zero, List.set_cons_succ, i64_w, i32_w]
         rfl
        refine take_ (i := 11) (N := some 60) (v := ?_) (a' := ?_) #[true, true, true, true, true, true, true, true, true, true, true, true, false, false, false, false, false, false, false, false, false, false, false] rfl rfl (take_ofW HT_.out HW_.out (by kernel_rfl)) (fun _ _ _ h => h) (Or.inl ⟨by rfl, ?_⟩) hHeld ?_ ?_
        rotate_left
        ·rintro w' ⟨s0, s1, s2, s3, s4, s5, s6, s7⟩
         go_simp
         with_reducible rfl
        rotate_left
        ·simp only [Act.put, List.setIfInBounds_toArray, List.set_cons_zero, List.set_cons_succ, i64_w, i32_w]
         rfl
        refine take_ (i := 12) (N := some 61) (v := ?_) (a' := ?_) #[true, true, true, true, true, true, true, true, true, true, true, true, true, false, false, false, false, false, false, false, false, false, false] rfl rfl (take_ofW HT_.out HW_.out (by kernel_rfl)) (fun _ _ _ h => h) (Or.inl ⟨by rfl, ?_⟩) hHeld ?_ ?_
        rotate_left
        ·rintro w' ⟨s0, s1, s2, s3, s4, s5, s6, s7⟩
         go_simp
         with_reducible rfl
        rotate_left
        ·simp only [Act.put, List.setIfInBounds_toArray, List.set_cons_zero, List.set_cons_succ, i64_w, i32_w]
         rfl
        refine take_ (i := 13) (N := some 62) (v := ?_) (a' := ?_) #[true, true, true, true, true, true, true, true, true, true, true, true, true, true, false, false, false, false, false, false, false, false, false] rfl rfl (take_ofW HT_.out HW_.out (by kernel_rfl)) (fun _ _ _ h => h) (Or.inl ⟨by rfl, ?_⟩) hHeld ?_ ?_
        rotate_left
        ·rintro w' ⟨s0, s1, s2, s3, s4, s5, s6, s7⟩
         go_simp
         with_reducible rfl
        rotate_left
        ·simp only [Act.put, List.setIfInBounds_toArray, List.set_cons_zero, List.set_cons_succ, i64_w, i32_w]
         rfl
        refine take_ (i := 15) (N := some 64) (v := ?_) (a' := ?_) #[true, true, true, true, true, true, true, true, true, true, true, true, true, true, false, true, false, false, false, false, false, false, false] rfl rfl (take_ofW HT_.out HW_.out (by kernel_rfl)) (fun _ _ _ h => h) (Or.inl ⟨by rfl, ?_⟩) hHeld ?_ ?_
        rotate_left
        ·rintro w' ⟨s0, s1, s2, s3, s4, s5, s6, s7⟩
         go_simp
         with_reducible rfl
        rotate_left
        ·simp only [Act.put, List.setIfInBounds_toArray, List.set_cons_zero, List.set_cons_succ, i64_w, i32_w]
         rfl
        refine take_ (i := 16) (N := some 65) (v := ?_) (a' := ?_) #[true, true, true, true, true, true, true, true, true, true, true, true, true, true, false, true, true, false, false, false, false, false, false] rfl rfl (take_ofW HT_.out HW_.out (by kernel_rfl)) (fun _ _ _ h => h) (Or.inl ⟨by rfl, ?_⟩) hHeld ?_ ?_
        rotate_left
        ·rintro w' ⟨s0, s1, s2, s3, s4, s5, s6, s7⟩
         go_simp
         with_reducible rfl
        rotate_left
        ·simp only [Act.put, List.setIfInBounds_toArray, List.set_cons_zero, List.set_cons_succ, i64_w, i32_w]
         rfl
        refine take_ (i := 17) (N := some 66) (v := ?_) (a' := ?_) #[true, true, true, true, true, true, true, true, true, true, true, true, true, true, false, true, true, true, false, false, false, false, false] rfl rfl (take_ofW HT_.out HW_.out (by kernel_rfl)) (fun _ _ _ h => h) (Or.inl ⟨by rfl, ?_⟩) hHeld ?_ ?_
        rotate_left
        ·rintro w' ⟨s0, s1, s2, s3, s4, s5, s6, s7⟩
         go_simp
         with_reducible rfl
        rotate_left
        ·simp only [Act.put, List.setIfInBounds_toArray, List.set_cons_zero, List.set_cons_succ, i64_w, i32_w]
         rfl
        refine one_ (i := 14) (N := some 63) #[true, true, true, true, true, true, true, true, true, true, true, true, true, true, true, true, true, true, false, false, false, false, false] rfl rfl (one_of HT_.out (by kernel_rfl)) (by decide) (fun K hK => ?_)
        refine goes_ Try.func19 (by kernel_rfl) rfl #[.agg #[.int .i64 a2_0, .int .i64 a2_1], .agg #[.int .i64 a3_0, .int .i64 a3_1], .agg #[.int .i64 a0_0, .int .i64 a0_1]] (by rfl) rfl rfl (by (try simp only [List.map_toArray, List.map_cons, List.map_nil]); first | done | rfl | (simp only [List.length_drop, List.length_take]; rfl)) ?_
        with_reducible refine (apogeeref10_Turn.calls kj57 a2_0 a2_1 a3_0 a3_1 a0_0 a0_1 t380 _ A134.out).mono ?_
        rintro e w139 ⟨rfl, hb⟩
        refine ⟨_, rfl, ?_⟩
        have n0_ := bA (bB BK366 hb)
        have n1_ := bA (bB BK367 hb)
        have n2_ := bA (bB BK368 hb)
        have n3_ := bA (bB BK369 hb)
        have n4_ := bA (bS hb)
        clear BK366
        clear BK367
        clear BK368
        clear BK369
        clear HB
        have BK366 := n0_
        have BK367 := n1_
        have BK368 := n2_
        have BK369 := n3_
        have HB := n4_
        clear n0_ n1_ n2_ n3_ n4_
        (try clear hb)
        (try clear hb2)
        (try clear hk)
        (try clear hi)
        refine hK.out _ _ ⟨(blk_cell BK366.out 0).trans rfl, (blk_cell BK366.out 1).trans rfl, (blk_cell BK367.out 0).trans rfl, (blk_cell BK367.out 1).trans rfl, (blk_cell BK368.out 0).trans rfl, (blk_cell BK368.out 1).trans rfl, (blk_cell BK369.out 0).trans rfl, (blk_cell BK369.out 1).trans rfl⟩ (fun hHeld => ?_)
        clear hK K
        refine norm_ (a' := ?_) ?_ ?_
        rotate_left
        ·show Act.put _ (some 63) _ = _
         simp only [Act.put, List.setIfInBounds_toArray, List.set_cons_zero, List.set_cons_succ, i64_w, i32_w]
         rfl
        refine one_ (i := 18) (N := some 67) #[true, true, true, true, true, true, true, true, true, true, true, true, true, true, true, true, true, true, true, false, false, false, false] rfl rfl (one_of HT_.out (by kernel_rfl)) (by decide) (fun K hK => ?_)
        refine goes_ Try.func19 (by kernel_rfl) rfl #[.agg #[.int .i64 a2_0, .int .i64 a2_1], .agg #[.int .i64 a3_0, .int .i64 a3_1], .agg #[.int .i64 a1_0, .int .i64 a1_1]] (by rfl) rfl rfl (by (try simp only [List.map_toArray, List.map_cons, List.map_nil]); first | done | rfl | (simp only [List.length_drop, List.length_take]; rfl)) ?_
        with_reducible refine (apogeeref10_Turn.calls kj57 a2_0 a2_1 a3_0 a3_1 a1_0 a1_1 t381 _ A135.out).mono ?_
        rintro e w140 ⟨rfl, hb⟩
        refine ⟨_, rfl, ?_⟩
        have n0_ := bA (bB BK366 hb)
        have n1_ := bA (bB BK367 hb)
        have n2_ := bA (bB BK368 hb)
        have n3_ := bA (bB BK369 hb)
        have n4_ := bA (bS hb)
        clear BK366
        clear BK367
        clear BK368
        clear BK369
        clear HB
        have BK366 := n0_
        have BK367 := n1_
        have BK368 := n2_
        have BK369 := n3_
        have HB := n4_
        clear n0_ n1_ n2_ n3_ n4_
        (try clear hb)
        (try clear hb2)
        (try clear hk)
        (try clear hi)
        refine hK.out _ _ ⟨(blk_cell BK366.out 0).trans rfl, (blk_cell BK366.out 1).trans rfl, (blk_cell BK367.out 0).trans rfl, (blk_cell BK367.out 1).trans rfl, (blk_cell BK368.out 0).trans rfl, (blk_cell BK368.out 1).trans rfl, (blk_cell BK369.out 0).trans rfl, (blk_cell BK369.out 1).trans rfl⟩ (fun hHeld => ?_)
        clear hK K
        refine norm_ (a' := ?_) ?_ ?_
        rotate_left
        ·show Act.put _ (some 67) _ = _
         simp only [Act.put, List.setIfInBounds_toArray, List.set_cons_zero, List.set_cons_succ, i64_w, i32_w]
         rfl
        refine pure_ (i := 19) (N := some 68) (v := ?_) (a' := ?_) #[true, true, true, true, true, true, true, true, true, true, true, true, true, true, true, true, true, true, true, true, false, false, false] rfl rfl (any_of HT_.out (by kernel_rfl)) (fun _ _ _ h => h) (Or.inl ⟨by rfl, ?_⟩) ?_ ?_
        rotate_left
        ·intro w'
         go_simp
         with_reducible rfl
        rotate_left
        ·simp only [Act.put, List.setIfInBounds_toArray, List.set_cons_zero, List.set_cons_succ, i64_w, i32_w]
         rfl
        refine pure_ (i := 20) (N := some 69) (v := ?_) (a' := ?_) #[true, true, true, true, true, true, true, true, true, true, true, true, true, true, true, true, true, true, true, true, true, false, false] rfl rfl (any_of HT_.out (by kernel_rfl)) (fun _ _ _ h => h) (Or.inl ⟨by rfl, ?_⟩) ?_ ?_
        rotate_left
        ·intro w'
         go_simp
         with_reducible rfl
        rotate_left
        ·simp only [Act.put, List.setIfInBounds_toArray, List.set_cons_zero, List.set_cons_succ, i64_w, i32_w]
         rfl
        refine pure_ (i := 21) (N := some 70) (v := ?_) (a' := ?_) #[true, true, true, true, true, true, true, true, true, true, true, true, true, true, true, true, true, true, true, true, true, true, false] rfl rfl (any_of HT_.out (by kernel_rfl)) (fun _ _ _ h => h) (Or.inl ⟨by rfl, ?_⟩) ?_ ?_
        rotate_left
        ·intro w'
         go_simp
         with_reducible rfl
        rotate_left
        ·simp only [Act.put, List.setIfInBounds_toArray, List.set_cons_zero, List.set_cons_succ, i64_w, i32_w]
         rfl
        refine pure_ (i := 22) (N := some 8) (v := ?_) (a' := ?_) #[true, true, true, true, true, true, true, true, true, true, true, true, true, true, true, true, true, true, true, true, true, true, true] rfl rfl (any_of HT_.out (by kernel_rfl)) (fun _ _ _ h => h) (Or.inl ⟨by rfl, ?_⟩) ?_ ?_
        rotate_left
        ·intro w'
         go_simp
         with_reducible rfl
        rotate_left
        ·simp only [Act.put, List.setIfInBounds_toArray, List.set_cons_zero, List.set_cons_succ, i64_w, i32_w]
         rfl
        refine done_ (done_of HT_.out (by kernel_rfl)) ?_
        try go_wp2
        go_ret
        exact bF
       ·rw [if_neg c133] at H
        have c133b0 : decide ((wrap64 (t378 * t379)) < 0) = false := decide_eq_false c133
        clear c133
        obtain rfl := Option.some.inj H
        try go_wp2
        have n0_ := bA (blk_drew BK366.out)
        have n1_ := bA (blk_drew BK367.out)
        have n2_ := bA (blk_drew BK368.out)
        have n3_ := bA (blk_drew BK369.out)
        have n4_ := bA (below_drew1 HB.out)
        clear BK366
        clear BK367
        clear BK368
        clear BK369
        clear HB
        have BK366 := n0_
        have BK367 := n1_
        have BK368 := n2_
        have BK369 := n3_
        have HB := n4_
        clear n0_ n1_ n2_ n3_ n4_
        refine start_ (n := 23) (S := fun w' => w'.cell? ⟨gb366, 0, none⟩ = some (.int .i64 a0_0) ∧ w'.cell? ⟨gb366, 1, none⟩ = some (.int .i64 a0_1) ∧ w'.cell? ⟨gb367, 0, none⟩ = some (.int .i64 a1_0) ∧ w'.cell? ⟨gb367, 1, none⟩ = some (.int .i64 a1_1) ∧ w'.cell? ⟨gb368, 0, none⟩ = some (.int .i64 a2_0) ∧ w'.cell? ⟨gb368, 1, none⟩ = some (.int .i64 a2_1) ∧ w'.cell? ⟨gb369, 0, none⟩ = some (.int .i64 a3_0) ∧ w'.cell? ⟨gb369, 1, none⟩ = some (.int .i64 a3_1)) (ds := []) #[false, false, false, false, false, false, false, false, false, false, false, false, false, false, false, false, false, false, false, false, false, false, false] (by kernel_rfl) rfl rfl ⟨(blk_cell BK366.out 0).trans rfl, (blk_cell BK366.out 1).trans rfl, (blk_cell BK367.out 0).trans rfl, (blk_cell BK367.out 1).trans rfl, (blk_cell BK368.out 0).trans rfl, (blk_cell BK368.out 1).trans rfl, (blk_cell BK369.out 0).trans rfl, (blk_cell BK369.out 1).trans rfl⟩ (fun hHeld => ?_); refine with_tabW apogeeref10_Meet.tab5 apogeeref10_Meet.bits5 (fun HT_ HW_ => ?_)
        generalize wc.drew = w141 at BK366 BK367 BK368 BK369 HB hHeld ⊢
        refine take_ (i := 0) (N := some 49) (v := ?_) (a' := ?_) #[true, false, false, false, false, false, false, false, false, false, false, false, false, false, false, false, false, false, false, false, false, false, false] rfl rfl (take_ofW HT_.out HW_.out (by kernel_rfl)) (fun _ _ _ h => h) (Or.inl ⟨by rfl, ?_⟩) hHeld ?_ ?_
        rotate_left
        ·rintro w' ⟨s0, s1, s2, s3, s4, s5, s6, s7⟩
         go_simp
         with_reducible rfl
        rotate_left
        ·simp only [Act.put, List.setIfInBounds_toArray, List.set_cons_zero, List.set_cons_succ, i64_w, i32_w]
         rfl
        refine take_ (i := 1) (N := some 50) (v := ?_) (a' := ?_) #[true, true, false, false, false, false, false, false, false, false, false, false, false, false, false, false, false, false, false, false, false, false, false] rfl rfl (take_ofW HT_.out HW_.out (by kernel_rfl)) (fun _ _ _ h => h) (Or.inl ⟨by rfl, ?_⟩) hHeld ?_ ?_
        rotate_left
        ·rintro w' ⟨s0, s1, s2, s3, s4, s5, s6, s7⟩
         go_simp
         with_reducible rfl
        rotate_left
        ·simp only [Act.put, List.setIfInBounds_toArray, List.set_cons_zero, List.set_cons_succ, i64_w, i32_w]
         rfl
        refine take_ (i := 2) (N := some 51) (v := ?_) (a' := ?_) #[true, true, true, false, false, false, false, false, false, false, false, false, false, false, false, false, false, false, false, false, false, false, false] rfl rfl (take_ofW HT_.out HW_.out (by kernel_rfl)) (fun _ _ _ h => h) (Or.inl ⟨by rfl, ?_⟩) hHeld ?_ ?_
        rotate_left
        ·rintro w' ⟨s0, s1, s2, s3, s4, s5, s6, s7⟩
         go_simp
         with_reducible rfl
        rotate_left
        ·simp only [Act.put, List.setIfInBounds_toArray, List.set_cons_zero, List.set_cons_succ, i64_w, i32_w]
         rfl
        refine take_ (i := 4) (N := some 53) (v := ?_) (a' := ?_) #[true, true, true, false, true, false, false, false, false, false, false, false, false, false, false, false, false, false, false, false, false, false, false] rfl rfl (take_ofW HT_.out HW_.out (by kernel_rfl)) (fun _ _ _ h => h) (Or.inl ⟨by rfl, ?_⟩) hHeld ?_ ?_
        rotate_left
        ·rintro w' ⟨s0, s1, s2, s3, s4, s5, s6, s7⟩
         go_simp
         with_reducible rfl
        rotate_left
        ·simp only [Act.put, List.setIfInBounds_toArray, List.set_cons_zero, List.set_cons_succ, i64_w, i32_w]
         rfl
        refine take_ (i := 5) (N := some 54) (v := ?_) (a' := ?_) #[true, true, true, false, true, true, false, false, false, false, false, false, false, false, false, false, false, false, false, false, false, false, false] rfl rfl (take_ofW HT_.out HW_.out (by kernel_rfl)) (fun _ _ _ h => h) (Or.inl ⟨by rfl, ?_⟩) hHeld ?_ ?_
        rotate_left
        ·rintro w' ⟨s0, s1, s2, s3, s4, s5, s6, s7⟩
         go_simp
         with_reducible rfl
        rotate_left
        ·simp only [Act.put, List.setIfInBounds_toArray, List.set_cons_zero, List.set_cons_succ, i64_w, i32_w]
         rfl
        refine take_ (i := 6) (N := some 55) (v := ?_) (a' := ?_) #[true, true, true, false, true, true, true, false, false, false, false, false, false, false, false, false, false, false, false, false, false, false, false] rfl rfl (take_ofW HT_.out HW_.out (by kernel_rfl)) (fun _ _ _ h => h) (Or.inl ⟨by rfl, ?_⟩) hHeld ?_ ?_
        rotate_left
        ·rintro w' ⟨s0, s1, s2, s3, s4, s5, s6, s7⟩
         go_simp
         with_reducible rfl
        rotate_left
        ·simp only [Act.put, List.setIfInBounds_toArray, List.set_cons_zero, List.set_cons_succ, i64_w, i32_w]
         rfl
        refine one_ (i := 3) (N := some 52) #[true, true, true, true, true, true, true, false, false, false, false, false, false, false, false, false, false, false, false, false, false, false, false] rfl rfl (one_of HT_.out (by kernel_rfl)) (by decide) (fun K hK => ?_)
        refine goes_ Try.func19 (by kernel_rfl) rfl #[.agg #[.int .i64 a0_0, .int .i64 a0_1], .agg #[.int .i64 a1_0, .int .i64 a1_1], .agg #[.int .i64 a2_0, .int .i64 a2_1]] (by rfl) rfl rfl (by (try simp only [List.map_toArray, List.map_cons, List.map_nil]); first | done | rfl | (simp only [List.length_drop, List.length_take]; rfl)) ?_
        with_reducible refine (apogeeref10_Turn.calls kj57 a0_0 a0_1 a1_0 a1_1 a2_0 a2_1 t378 _ A131.out).mono ?_
        rintro e w142 ⟨rfl, hb⟩
        refine ⟨_, rfl, ?_⟩
        have n0_ := bA (bB BK366 hb)
        have n1_ := bA (bB BK367 hb)
        have n2_ := bA (bB BK368 hb)
        have n3_ := bA (bB BK369 hb)
        have n4_ := bA (bS hb)
        clear BK366
        clear BK367
        clear BK368
        clear BK369
        clear HB
        have BK366 := n0_
        have BK367 := n1_
        have BK368 := n2_
        have BK369 := n3_
        have HB := n4_
        clear n0_ n1_ n2_ n3_ n4_
        (try clear hb)
        (try clear hb2)
        (try clear hk)
        (try clear hi)
        refine hK.out _ _ ⟨(blk_cell BK366.out 0).trans rfl, (blk_cell BK366.out 1).trans rfl, (blk_cell BK367.out 0).trans rfl, (blk_cell BK367.out 1).trans rfl, (blk_cell BK368.out 0).trans rfl, (blk_cell BK368.out 1).trans rfl, (blk_cell BK369.out 0).trans rfl, (blk_cell BK369.out 1).trans rfl⟩ (fun hHeld => ?_)
        clear hK K
        refine norm_ (a' := ?_) ?_ ?_
        rotate_left
        ·show Act.put _ (some 52) _ = _
         simp only [Act.put, List.setIfInBounds_toArray, List.set_cons_zero, List.set_cons_succ, i64_w, i32_w]
         rfl
        refine one_ (i := 7) (N := some 56) #[true, true, true, true, true, true, true, true, false, false, false, false, false, false, false, false, false, false, false, false, false, false, false] rfl rfl (one_of HT_.out (by kernel_rfl)) (by decide) (fun K hK => ?_)
        refine goes_ Try.func19 (by kernel_rfl) rfl #[.agg #[.int .i64 a0_0, .int .i64 a0_1], .agg #[.int .i64 a1_0, .int .i64 a1_1], .agg #[.int .i64 a3_0, .int .i64 a3_1]] (by rfl) rfl rfl (by (try simp only [List.map_toArray, List.map_cons, List.map_nil]); first | done | rfl | (simp only [List.length_drop, List.length_take]; rfl)) ?_
        with_reducible refine (apogeeref10_Turn.calls kj57 a0_0 a0_1 a1_0 a1_1 a3_0 a3_1 t379 _ A132.out).mono ?_
        rintro e w143 ⟨rfl, hb⟩
        refine ⟨_, rfl, ?_⟩
        have n0_ := bA (bB BK366 hb)
        have n1_ := bA (bB BK367 hb)
        have n2_ := bA (bB BK368 hb)
        have n3_ := bA (bB BK369 hb)
        have n4_ := bA (bS hb)
        clear BK366
        clear BK367
        clear BK368
        clear BK369
        clear HB
        have BK366 := n0_
        have BK367 := n1_
        have BK368 := n2_
        have BK369 := n3_
        have HB := n4_
        clear n0_ n1_ n2_ n3_ n4_
        (try clear hb)
        (try clear hb2)
        (try clear hk)
        (try clear hi)
        refine hK.out _ _ ⟨(blk_cell BK366.out 0).trans rfl, (blk_cell BK366.out 1).trans rfl, (blk_cell BK367.out 0).trans rfl, (blk_cell BK367.out 1).trans rfl, (blk_cell BK368.out 0).trans rfl, (blk_cell BK368.out 1).trans rfl, (blk_cell BK369.out 0).trans rfl, (blk_cell BK369.out 1).trans rfl⟩ (fun hHeld => ?_)
        clear hK K
        refine norm_ (a' := ?_) ?_ ?_
        rotate_left
        ·show Act.put _ (some 56) _ = _
         simp only [Act.put, List.setIfInBounds_toArray, List.set_cons_zero, List.set_cons_succ, i64_w, i32_w]
         rfl
        refine pure_ (i := 8) (N := some 57) (v := ?_) (a' := ?_) #[true, true, true, true, true, true, true, true, true, false, false, false, false, false, false, false, false, false, false, false, false, false, false] rfl rfl (any_of HT_.out (by kernel_rfl)) (fun _ _ _ h => h) (Or.inl ⟨by rfl, ?_⟩) ?_ ?_
        rotate_left
        ·intro w'
         go_simp
         with_reducible rfl
        rotate_left
        ·simp only [Act.put, List.setIfInBounds_toArray, List.set_cons_zero, List.set_cons_succ, i64_w, i32_w]
         rfl
        refine pure_ (i := 9) (N := some 58) (v := ?_) (a' := ?_) #[true, true, true, true, true, true, true, true, true, true, false, false, false, false, false, false, false, false, false, false, false, false, false] rfl rfl (any_of HT_.out (by kernel_rfl)) (fun _ _ _ h => h) (Or.inl ⟨by rfl, ?_⟩) ?_ ?_
        rotate_left
        ·intro w'
         go_simp
         with_reducible rfl
        rotate_left
        ·simp only [Act.put, List.setIfInBounds_toArray, List.set_cons_zero, List.set_cons_succ, i64_w, i32_w]
         rfl
        refine pure_ (i := 10) (N := some 59) (v := ?_) (a' := ?_) #[true, true, true, true, true, true, true, true, true, true, true, false, false, false, false, false, false, false, false, false, false, false, false] rfl rfl (any_of HT_.out (by kernel_rfl)) (fun _ _ _ h => h) (Or.inl ⟨by rfl, ?_⟩) ?_ ?_
        rotate_left
        ·intro w'
         go_simp
         with_reducible rfl
        rotate_left
        ·simp only [Act.put, List.setIfInBounds_toArray, List.set_cons_zero, List.set_cons_succ, i64_w, i32_w]
         rfl
        refine pure_ (i := 11) (N := some 60) (v := undef) (a' := ?_) #[true, true, true, true, true, true, true, true, true, true, true, true, false, false, false, false, false, false, false, false, false, false, false] rfl rfl (any_of HT_.out (by kernel_rfl)) (fun _ _ _ h => h) (Or.inr ⟨by rfl, rfl⟩) ?_ ?_
        rotate_left
        ·simp only [Act.put, List.setIfInBounds_toArray, List.set_cons_zero, List.set_cons_succ, i64_w, i32_w]
         rfl
        refine pure_ (i := 12) (N := some 61) (v := undef) (a' := ?_) #[true, true, true, true, true, true, true, true, true, true, true, true, true, false, false, false, false, false, false, false, false, false, false] rfl rfl (any_of HT_.out (by kernel_rfl)) (fun _ _ _ h => h) (Or.inr ⟨by rfl, rfl⟩) ?_ ?_
        rotate_left
        ·simp only [Act.put, List.setIfInBounds_toArray, List.set_cons_zero, List.set_cons_succ, i64_w, i32_w]
         rfl
        refine pure_ (i := 13) (N := some 62) (v := undef) (a' := ?_) #[true, true, true, true, true, true, true, true, true, true, true, true, true, true, false, false, false, false, false, false, false, false, false] rfl rfl (any_of HT_.out (by kernel_rfl)) (fun _ _ _ h => h) (Or.inr ⟨by rfl, rfl⟩) ?_ ?_
        rotate_left
        ·simp only [Act.put, List.setIfInBounds_toArray, List.set_cons_zero, List.set_cons_succ, i64_w, i32_w]
         rfl
        refine pure_ (i := 14) (N := some 63) (v := undef) (a' := ?_) #[true, true, true, true, true, true, true, true, true, true, true, true, true, true, true, false, false, false, false, false, false, false, false] rfl rfl (any_of HT_.out (by kernel_rfl)) (fun _ _ _ h => h) (Or.inr ⟨by rfl, rfl⟩) ?_ ?_
        rotate_left
        ·simp only [Act.put, List.setIfInBounds_toArray, List.set_cons_zero, List.set_cons_succ, i64_w, i32_w]
         rfl
        refine pure_ (i := 15) (N := some 64) (v := undef) (a' := ?_) #[true, true, true, true, true, true, true, true, true, true, true, true, true, true, true, true, false, false, false, false, false, false, false] rfl rfl (any_of HT_.out (by kernel_rfl)) (fun _ _ _ h => h) (Or.inr ⟨by rfl, rfl⟩) ?_ ?_
        rotate_left
        ·simp only [Act.put, List.setIfInBounds_toArray, List.set_cons_zero, List.set_cons_succ, i64_w, i32_w]
         rfl
        refine pure_ (i := 16) (N := some 65) (v := undef) (a' := ?_) #[true, true, true, true, true, true, true, true, true, true, true, true, true, true, true, true, true, false, false, false, false, false, false] rfl rfl (any_of HT_.out (by kernel_rfl)) (fun _ _ _ h => h) (Or.inr ⟨by rfl, rfl⟩) ?_ ?_
        rotate_left
        ·simp only [Act.put, List.setIfInBounds_toArray, List.set_cons_zero, List.set_cons_succ, i64_w, i32_w]
         rfl
        refine pure_ (i := 17) (N := some 66) (v := undef) (a' := ?_) #[true, true, true, true, true, true, true, true, true, true, true, true, true, true, true, true, true, true, false, false, false, false, false] rfl rfl (any_of HT_.out (by kernel_rfl)) (fun _ _ _ h => h) (Or.inr ⟨by rfl, rfl⟩) ?_ ?_
        rotate_left
        ·simp only [Act.put, List.setIfInBounds_toArray, List.set_cons_zero, List.set_cons_succ, i64_w, i32_w]
         rfl
        refine pure_ (i := 18) (N := some 67) (v := undef) (a' := ?_) #[true, true, true, true, true, true, true, true, true, true, true, true, true, true, true, true, true, true, true, false, false, false, false] rfl rfl (any_of HT_.out (by kernel_rfl)) (fun _ _ _ h => h) (Or.inr ⟨by rfl, rfl⟩) ?_ ?_
        rotate_left
        ·simp only [Act.put, List.setIfInBounds_toArray, List.set_cons_zero, List.set_cons_succ, i64_w, i32_w]
         rfl
        refine pure_ (i := 19) (N := some 68) (v := undef) (a' := ?_) #[true, true, true, true, true, true, true, true, true, true, true, true, true, true, true, true, true, true, true, true, false, false, false] rfl rfl (any_of HT_.out (by kernel_rfl)) (fun _ _ _ h => h) (Or.inr ⟨by rfl, rfl⟩) ?_ ?_
        rotate_left
        ·simp only [Act.put, List.setIfInBounds_toArray, List.set_cons_zero, List.set_cons_succ, i64_w, i32_w]
         rfl
        refine pure_ (i := 20) (N := some 69) (v := undef) (a' := ?_) #[true, true, true, true, true, true, true, true, true, true, true, true, true, true, true, true, true, true, true, true, true, false, false] rfl rfl (any_of HT_.out (by kernel_rfl)) (fun _ _ _ h => h) (Or.inr ⟨by rfl, rfl⟩) ?_ ?_
        rotate_left
        ·simp only [Act.put, List.setIfInBounds_toArray, List.set_cons_zero, List.set_cons_succ, i64_w, i32_w]
         rfl
        refine pure_ (i := 21) (N := some 70) (v := ?_) (a' := ?_) #[true, true, true, true, true, true, true, true, true, true, true, true, true, true, true, true, true, true, true, true, true, true, false] rfl rfl (any_of HT_.out (by kernel_rfl)) (fun _ _ _ h => h) (Or.inl ⟨by rfl, ?_⟩) ?_ ?_
        rotate_left
        ·intro w'
         go_simp
         with_reducible rfl
        rotate_left
        ·simp only [Act.put, List.setIfInBounds_toArray, List.set_cons_zero, List.set_cons_succ, i64_w, i32_w]
         rfl
        refine pure_ (i := 22) (N := some 8) (v := ?_) (a' := ?_) #[true, true, true, true, true, true, true, true, true, true, true, true, true, true, true, true, true, true, true, true, true, true, true] rfl rfl (any_of HT_.out (by kernel_rfl)) (fun _ _ _ h => h) (Or.inl ⟨by rfl, ?_⟩) ?_ ?_
        rotate_left
        ·intro w'
         go_simp
         with_reducible rfl
        rotate_left
        ·simp only [Act.put, List.setIfInBounds_toArray, List.set_cons_zero, List.set_cons_succ, i64_w, i32_w]
         rfl
        refine done_ (done_of HT_.out (by kernel_rfl)) ?_
        try go_wp2
        go_ret
        exact bF
end Go.Proofs.Ytlifeghjcgbfnaa.G
