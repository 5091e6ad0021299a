-- Written by a program of this session out of the translation; Lean checks it.
import Derived.Test.YtlifeghjcgbfnaaGx0
import Derived.Test.YtlifeghjcgbfnaaGx7
import Derived.Test.YtlifeghjcgbfnaaGx9
import Derived.Test.YtlifeghjcgbfnaaGx10
import Derived.Test.YtlifeghjcgbfnaaGx11
import Derived.Test.YtlifeghjcgbfnaaGx14
import Derived.Test.YtlifeghjcgbfnaaGx15
namespace Go.Proofs.Ytlifeghjcgbfnaa.G
open Go.RowKit Go.Proofs.YtlifeghjcgbfnaaW.PrintWords Go.Proofs.YtlifeghjcgbfnaaW.PrintLast Go.Proofs.YtlifeghjcgbfnaaW.PrintMore
attribute [local go_sem] max2_int min2_int max_two min_two max_three min_three max_four min_four   -- for this text's walks alone
set_option linter.unusedVariables false
set_option linter.unusedSimpArgs false

/-! ### apogeelaw10_PointTells: function 4 -/
def apogeelaw10_PointTells.f (k : Nat) (a0_0 : Int) (a0_1 : Int) (a1_0 : Int) (a1_1 : Int) (a2_0 : Int) (a2_1 : Int) (a3_0 : Int) (a3_1 : Int) : Option (Bool) := (apogeelaw10_awake.f k).bind fun t386 => (if t386 = true then ((point_Right.f a0_0 a0_1).bind fun t387 => ((apogeeref10_Right.f a0_0 a0_1).bind fun t388 => (if (t387 == t388) = true then ((point_Turn.f k a0_0 a0_1 a1_0 a1_1 a2_0 a2_1).bind fun t389 => ((apogeeref10_Turn.f k a0_0 a0_1 a1_0 a1_1 a2_0 a2_1).bind fun t390 => (if t389 = t390 then ((point_On.f k a0_0 a0_1 a1_0 a1_1 a2_0 a2_1).bind fun t391 => ((apogeeref10_On.f k a0_0 a0_1 a1_0 a1_1 a2_0 a2_1).bind fun t392 => (if (t391 == t392) = true then ((point_Meet.f k a0_0 a0_1 a1_0 a1_1 a2_0 a2_1 a3_0 a3_1).bind fun t393 => ((apogeeref10_Meet.f k a0_0 a0_1 a1_0 a1_1 a2_0 a2_1 a3_0 a3_1).bind fun t394 => (some (t393 == t394)))) else (none)))) else (none)))) else (none)))) else (none))
theorem apogeelaw10_PointTells.mono : ∀ a0 a1 a2 a3 a4 a5 a6 a7 k, LeO (apogeelaw10_PointTells.f k a0 a1 a2 a3 a4 a5 a6 a7) (apogeelaw10_PointTells.f (k + 1) a0 a1 a2 a3 a4 a5 a6 a7) := by
 intro a0 a1 a2 a3 a4 a5 a6 a7 k
 unfold apogeelaw10_PointTells.f
 repeat' first
   | (with_reducible exact apogeelaw10_awake.mono _)
   | (with_reducible exact apogeeref10_Meet.mono _ _ _ _ _ _ _ _ _)
   | (with_reducible exact apogeeref10_On.mono _ _ _ _ _ _ _)
   | (with_reducible exact apogeeref10_Turn.mono _ _ _ _ _ _ _)
   | (with_reducible exact point_Meet.mono _ _ _ _ _ _ _ _ _)
   | (with_reducible exact point_On.mono _ _ _ _ _ _ _)
   | (with_reducible exact point_Turn.mono _ _ _ _ _ _ _)
   | (with_reducible exact LeO.refl _)
   | (with_reducible exact LeO.none _)
   | (with_reducible refine LeO.ite ?_ ?_)
   | (with_reducible refine LeO.bind ?_ (fun _ => ?_))
   | exact apogeelaw10_awake.mono _
   | exact apogeeref10_Meet.mono _ _ _ _ _ _ _ _ _
   | exact apogeeref10_On.mono _ _ _ _ _ _ _
   | exact apogeeref10_Turn.mono _ _ _ _ _ _ _
   | exact point_Meet.mono _ _ _ _ _ _ _ _ _
   | exact point_On.mono _ _ _ _ _ _ _
   | exact point_Turn.mono _ _ _ _ _ _ _
   | exact LeO.none _
   | refine LeO.ite ?_ ?_
   | refine LeO.bind ?_ (fun _ => ?_)
def apogeelaw10_PointTells.T1 : Bool × List (List Nat × List Nat) := (true, [([], []), ([0, 0], [0]), ([1], [1]), ([2, 1, 1], [1, 2]), ([1], [1]), ([4, 3, 1], [1, 4]), ([3, 5, 1], [1, 3, 5]), ([1, 6], [1, 6]), ([7, 5], [7]), ([8], [8]), ([8], [8]), ([8], [8]), ([9, 10, 11, 8, 8], [8, 9, 10, 11]), ([8], [8]), ([8], [8]), ([8], [8]), ([13, 14, 15, 12, 8], [8, 13, 14, 15]), ([12, 16, 8], [8, 12, 16]), ([8, 17], [8, 17]), ([18, 16], [18]), ([19], [19]), ([19], [19]), ([19], [19]), ([20, 21, 22, 19, 19], [19, 20, 21, 22]), ([19], [19]), ([19], [19]), ([19], [19]), ([24, 25, 26, 23, 19], [19, 24, 25, 26]), ([23, 27, 19], [19, 23, 27]), ([19, 28], [19, 28]), ([29, 27], [29]), ([30], [30]), ([30], [30]), ([30], [30]), ([30], [30]), ([31, 32, 33, 34, 30, 30], [30, 31, 32, 33, 34]), ([30], [30]), ([30], [30]), ([30], [30]), ([30], [30]), ([36, 37, 38, 39, 35, 30], [30, 36, 37, 38, 39]), ([35, 40, 30], [30, 35, 40]), ([30, 41], [30, 41]), ([42, 40, 0, 1, 2, 3, 4, 5, 6, 7, 8, 9, 10, 11, 12, 13, 14, 15, 16, 17, 18, 19, 20, 21, 22, 23, 24, 25, 26, 27, 28, 29, 30, 31, 32, 33, 34, 35, 36, 37, 38, 39, 40, 41, 42], [42])])
def apogeelaw10_PointTells.B1 : List Nat := [0, 1, 3, 7, 3, 31, 63, 127, 255, 511, 511, 511, 4095, 511, 511, 511, 65535, 131071, 262143, 524287, 1048575, 1048575, 1048575, 8388607, 1048575, 1048575, 1048575, 134217727, 268435455, 536870911, 1073741823, 2147483647, 2147483647, 2147483647, 2147483647, 34359738367, 2147483647, 2147483647, 2147483647, 2147483647, 1099511627775, 2199023255551, 4398046511103, 8796093022207]
theorem apogeelaw10_PointTells.tab1 : rtab .any (opsOf Try.f4 1) = apogeelaw10_PointTells.T1 := by kernel_rfl
theorem apogeelaw10_PointTells.bits1 : waitsOk apogeelaw10_PointTells.T1.2 apogeelaw10_PointTells.B1 = true := by kernel_rfl
set_option maxHeartbeats 8000000 in
set_option maxRecDepth 100000 in
theorem apogeelaw10_PointTells.calls (k : Nat) (a0_0 : Int) (a0_1 : Int) (a1_0 : Int) (a1_1 : Int) (a2_0 : Int) (a2_1 : Int) (a3_0 : Int) (a3_1 : Int) (r : Bool) (w : World) (h : apogeelaw10_PointTells.f k a0_0 a0_1 a1_0 a1_1 a2_0 a2_1 a3_0 a3_1 = some r) :
  Calls Try.prog 4 #[.agg #[.int .i64 a0_0, .int .i64 a0_1], .agg #[.int .i64 a1_0, .int .i64 a1_1], .agg #[.int .i64 a2_0, .int .i64 a2_1], .agg #[.int .i64 a3_0, .int .i64 a3_1]] w fun e w' => e = .returned (.bool r) ∧ Below w.heap.size w w' := by
 have hu31 := Try.underlying31
 have HB := bA (Below.refl w.heap.size w)
 have H : ((apogeelaw10_awake.f k).bind fun t386 => (if t386 = true then ((point_Right.f a0_0 a0_1).bind fun t387 => ((apogeeref10_Right.f a0_0 a0_1).bind fun t388 => (if (t387 == t388) = true then ((point_Turn.f k a0_0 a0_1 a1_0 a1_1 a2_0 a2_1).bind fun t389 => ((apogeeref10_Turn.f k a0_0 a0_1 a1_0 a1_1 a2_0 a2_1).bind fun t390 => (if t389 = t390 then ((point_On.f k a0_0 a0_1 a1_0 a1_1 a2_0 a2_1).bind fun t391 => ((apogeeref10_On.f k a0_0 a0_1 a1_0 a1_1 a2_0 a2_1).bind fun t392 => (if (t391 == t392) = true then ((point_Meet.f k a0_0 a0_1 a1_0 a1_1 a2_0 a2_1 a3_0 a3_1).bind fun t393 => ((apogeeref10_Meet.f k a0_0 a0_1 a1_0 a1_1 a2_0 a2_1 a3_0 a3_1).bind fun t394 => (some (t393 == t394)))) else (none)))) else (none)))) else (none)))) else (none))) = some r := h
 clear h
 replace H := Option.bind_eq_some_iff.mp H
 obtain ⟨t386, A50, H⟩ := H
 replace H : (if t386 = true then ((point_Right.f a0_0 a0_1).bind fun t387 => ((apogeeref10_Right.f a0_0 a0_1).bind fun t388 => (if (t387 == t388) = true then ((point_Turn.f k a0_0 a0_1 a1_0 a1_1 a2_0 a2_1).bind fun t389 => ((apogeeref10_Turn.f k a0_0 a0_1 a1_0 a1_1 a2_0 a2_1).bind fun t390 => (if t389 = t390 then ((point_On.f k a0_0 a0_1 a1_0 a1_1 a2_0 a2_1).bind fun t391 => ((apogeeref10_On.f k a0_0 a0_1 a1_0 a1_1 a2_0 a2_1).bind fun t392 => (if (t391 == t392) = true then ((point_Meet.f k a0_0 a0_1 a1_0 a1_1 a2_0 a2_1 a3_0 a3_1).bind fun t393 => ((apogeeref10_Meet.f k a0_0 a0_1 a1_0 a1_1 a2_0 a2_1 a3_0 a3_1).bind fun t394 => (some (t393 == t394)))) else (none)))) else (none)))) else (none)))) else (none)) = some r := H
 have A5 := bA A50
 clear A50
 by_cases c6 : t386 = true
 ·subst c6
  rw [if_pos rfl] at H
  replace H := Option.bind_eq_some_iff.mp H
  obtain ⟨t387, A70, H⟩ := H
  replace H : ((apogeeref10_Right.f a0_0 a0_1).bind fun t388 => (if (t387 == t388) = true then ((point_Turn.f k a0_0 a0_1 a1_0 a1_1 a2_0 a2_1).bind fun t389 => ((apogeeref10_Turn.f k a0_0 a0_1 a1_0 a1_1 a2_0 a2_1).bind fun t390 => (if t389 = t390 then ((point_On.f k a0_0 a0_1 a1_0 a1_1 a2_0 a2_1).bind fun t391 => ((apogeeref10_On.f k a0_0 a0_1 a1_0 a1_1 a2_0 a2_1).bind fun t392 => (if (t391 == t392) = true then ((point_Meet.f k a0_0 a0_1 a1_0 a1_1 a2_0 a2_1 a3_0 a3_1).bind fun t393 => ((apogeeref10_Meet.f k a0_0 a0_1 a1_0 a1_1 a2_0 a2_1 a3_0 a3_1).bind fun t394 => (some (t393 == t394)))) else (none)))) else (none)))) else (none))) = some r := H
  have A7 := bA A70
  clear A70
  replace H := Option.bind_eq_some_iff.mp H
  obtain ⟨t388, A80, H⟩ := H
  replace H : (if (t387 == t388) = true then ((point_Turn.f k a0_0 a0_1 a1_0 a1_1 a2_0 a2_1).bind fun t389 => ((apogeeref10_Turn.f k a0_0 a0_1 a1_0 a1_1 a2_0 a2_1).bind fun t390 => (if t389 = t390 then ((point_On.f k a0_0 a0_1 a1_0 a1_1 a2_0 a2_1).bind fun t391 => ((apogeeref10_On.f k a0_0 a0_1 a1_0 a1_1 a2_0 a2_1).bind fun t392 => (if (t391 == t392) = true then ((point_Meet.f k a0_0 a0_1 a1_0 a1_1 a2_0 a2_1 a3_0 a3_1).bind fun t393 => ((apogeeref10_Meet.f k a0_0 a0_1 a1_0 a1_1 a2_0 a2_1 a3_0 a3_1).bind fun t394 => (some (t393 == t394)))) else (none)))) else (none)))) else (none)) = some r := H
  have A8 := bA A80
  clear A80
  by_cases c9 : (t387 == t388) = true
  ·rw [if_pos c9] at H
   have c9b0 : (t387 == t388) = true := c9
   (try (have c9b1 : decide (t387 = t388) = true := by simpa using c9))
   (try (have c9b2 : (t387 == t388) = true := by simpa using c9))
   clear c9
   replace H := Option.bind_eq_some_iff.mp H
   obtain ⟨t389, A100, H⟩ := H
   replace H : ((apogeeref10_Turn.f k a0_0 a0_1 a1_0 a1_1 a2_0 a2_1).bind fun t390 => (if t389 = t390 then ((point_On.f k a0_0 a0_1 a1_0 a1_1 a2_0 a2_1).bind fun t391 => ((apogeeref10_On.f k a0_0 a0_1 a1_0 a1_1 a2_0 a2_1).bind fun t392 => (if (t391 == t392) = true then ((point_Meet.f k a0_0 a0_1 a1_0 a1_1 a2_0 a2_1 a3_0 a3_1).bind fun t393 => ((apogeeref10_Meet.f k a0_0 a0_1 a1_0 a1_1 a2_0 a2_1 a3_0 a3_1).bind fun t394 => (some (t393 == t394)))) else (none)))) else (none))) = some r := H
   have A10 := bA A100
   clear A100
   replace H := Option.bind_eq_some_iff.mp H
   obtain ⟨t390, A110, H⟩ := H
   replace H : (if t389 = t390 then ((point_On.f k a0_0 a0_1 a1_0 a1_1 a2_0 a2_1).bind fun t391 => ((apogeeref10_On.f k a0_0 a0_1 a1_0 a1_1 a2_0 a2_1).bind fun t392 => (if (t391 == t392) = true then ((point_Meet.f k a0_0 a0_1 a1_0 a1_1 a2_0 a2_1 a3_0 a3_1).bind fun t393 => ((apogeeref10_Meet.f k a0_0 a0_1 a1_0 a1_1 a2_0 a2_1 a3_0 a3_1).bind fun t394 => (some (t393 == t394)))) else (none)))) else (none)) = some r := H
   have A11 := bA A110
   clear A110
   by_cases c12 : t389 = t390
   ·rw [if_pos c12] at H
    have c12b0 : (t389 == t390) = true := beq_iff_eq.mpr c12
    have c12b1 : (t389 != t390) = false := bne_eq_false_iff_eq.mpr c12
    clear c12
    replace H := Option.bind_eq_some_iff.mp H
    obtain ⟨t391, A130, H⟩ := H
    replace H : ((apogeeref10_On.f k a0_0 a0_1 a1_0 a1_1 a2_0 a2_1).bind fun t392 => (if (t391 == t392) = true then ((point_Meet.f k a0_0 a0_1 a1_0 a1_1 a2_0 a2_1 a3_0 a3_1).bind fun t393 => ((apogeeref10_Meet.f k a0_0 a0_1 a1_0 a1_1 a2_0 a2_1 a3_0 a3_1).bind fun t394 => (some (t393 == t394)))) else (none))) = some r := H
    have A13 := bA A130
    clear A130
    replace H := Option.bind_eq_some_iff.mp H
    obtain ⟨t392, A140, H⟩ := H
    replace H : (if (t391 == t392) = true then ((point_Meet.f k a0_0 a0_1 a1_0 a1_1 a2_0 a2_1 a3_0 a3_1).bind fun t393 => ((apogeeref10_Meet.f k a0_0 a0_1 a1_0 a1_1 a2_0 a2_1 a3_0 a3_1).bind fun t394 => (some (t393 == t394)))) else (none)) = some r := H
    have A14 := bA A140
    clear A140
    by_cases c15 : (t391 == t392) = true
    ·rw [if_pos c15] at H
     have c15b0 : (t391 == t392) = true := c15
     (try (have c15b1 : decide (t391 = t392) = true := by simpa using c15))
     (try (have c15b2 : (t391 == t392) = true := by simpa using c15))
     clear c15
     replace H := Option.bind_eq_some_iff.mp H
     obtain ⟨t393, A160, H⟩ := H
     replace H : ((apogeeref10_Meet.f k a0_0 a0_1 a1_0 a1_1 a2_0 a2_1 a3_0 a3_1).bind fun t394 => (some (t393 == t394))) = some r := H
     have A16 := bA A160
     clear A160
     replace H := Option.bind_eq_some_iff.mp H
     obtain ⟨t394, A170, H⟩ := H
     replace H : (some (t393 == t394)) = some r := H
     have A17 := bA A170
     clear A170
     obtain rfl := Option.some.inj H
     go_enter Try.func4, Try.ntmps4
     try go_wp2_with (first | ((with_reducible refine gate_dst (N := 4) rfl ?_); refine bE (N := 4) (cs := #[.int .i64 a0_0, .int .i64 a0_1]) (t := 31) ?_; intro gb382 hg w18 hbox hb; have n0_ := bA (bS hb); have n1_ := bA (hbox); have n2_ := bA ((bZ hg : w.heap.size ≤ gb382)); have n3_ := bA ((bZ hg : w.heap.size ≤ gb382)); clear HB; have HB := n0_; have BK382 := n1_; have GW382 := n2_; have GE382 := n3_; clear n0_ n1_ n2_ n3_; clear hb hbox hg) | ((with_reducible refine gate_dst (N := 5) rfl ?_); refine bE (N := 5) (cs := #[.int .i64 a1_0, .int .i64 a1_1]) (t := 31) ?_; intro gb383 hg w19 hbox hb; have n0_ := bA (bB BK382 hb); have n1_ := bA (bS hb); have n2_ := bA (hbox); have n3_ := bA ((bZ hg : w.heap.size ≤ gb383)); have n4_ := bA ((bZ hg : w.heap.size ≤ gb383)); have n5_ := bA ((bL BK382 hg : gb382 ≠ gb383)); have n6_ := bA ((bG BK382 hg : gb383 ≠ gb382)); clear BK382; clear HB; have BK382 := n0_; have HB := n1_; have BK383 := n2_; have GW383 := n3_; have GE383 := n4_; have NB382_383 := n5_; have NB383_382 := n6_; clear n0_ n1_ n2_ n3_ n4_ n5_ n6_; clear hb hbox hg) | ((with_reducible refine gate_dst (N := 6) rfl ?_); refine bE (N := 6) (cs := #[.int .i64 a2_0, .int .i64 a2_1]) (t := 31) ?_; intro gb384 hg w20 hbox hb; have n0_ := bA (bB BK382 hb); have n1_ := bA (bB BK383 hb); have n2_ := bA (bS hb); have n3_ := bA (hbox); have n4_ := bA ((bZ hg : w.heap.size ≤ gb384)); have n5_ := bA ((bZ hg : w.heap.size ≤ gb384)); have n6_ := bA ((bL BK382 hg : gb382 ≠ gb384)); have n7_ := bA ((bG BK382 hg : gb384 ≠ gb382)); have n8_ := bA ((bL BK383 hg : gb383 ≠ gb384)); have n9_ := bA ((bG BK383 hg : gb384 ≠ gb383)); clear BK382; clear BK383; clear HB; have BK382 := n0_; have BK383 := n1_; have HB := n2_; have BK384 := n3_; have GW384 := n4_; have GE384 := n5_; have NB382_384 := n6_; have NB384_382 := n7_; have NB383_384 := n8_; have NB384_383 := n9_; clear n0_ n1_ n2_ n3_ n4_ n5_ n6_ n7_ n8_ n9_; clear hb hbox hg) | ((with_reducible refine gate_dst (N := 7) rfl ?_); refine bE (N := 7) (cs := #[.int .i64 a3_0, .int .i64 a3_1]) (t := 31) ?_; intro gb385 hg w21 hbox hb; have n0_ := bA (bB BK382 hb); have n1_ := bA (bB BK383 hb); have n2_ := bA (bB BK384 hb); have n3_ := bA (bS hb); have n4_ := bA (hbox); have n5_ := bA ((bZ hg : w.heap.size ≤ gb385)); have n6_ := bA ((bZ hg : w.heap.size ≤ gb385)); have n7_ := bA ((bL BK382 hg : gb382 ≠ gb385)); have n8_ := bA ((bG BK382 hg : gb385 ≠ gb382)); have n9_ := bA ((bL BK383 hg : gb383 ≠ gb385)); have n10_ := bA ((bG BK383 hg : gb385 ≠ gb383)); have n11_ := bA ((bL BK384 hg : gb384 ≠ gb385)); have n12_ := bA ((bG BK384 hg : gb385 ≠ gb384)); clear BK382; clear BK383; clear BK384; clear HB; have BK382 := n0_; have BK383 := n1_; have BK384 := n2_; have HB := n3_; have BK385 := n4_; have GW385 := n5_; have GE385 := n6_; have NB382_385 := n7_; have NB385_382 := n8_; have NB383_385 := n9_; have NB385_383 := n10_; have NB384_385 := n11_; have NB385_384 := n12_; clear n0_ n1_ n2_ n3_ n4_ n5_ n6_ n7_ n8_ n9_ n10_ n11_ n12_; clear hb hbox hg))
     have n0_ := bA (blk_drew BK382.out)
     have n1_ := bA (blk_drew BK383.out)
     have n2_ := bA (blk_drew BK384.out)
     have n3_ := bA (blk_drew BK385.out)
     have n4_ := bA (below_drew1 HB.out)
     clear BK382
     clear BK383
     clear BK384
     clear BK385
     clear HB
     have BK382 := n0_
     have BK383 := n1_
     have BK384 := n2_
     have BK385 := n3_
     have HB := n4_
     clear n0_ n1_ n2_ n3_ n4_
     refine start_ (n := 44) (S := fun w' => w'.cell? ⟨gb382, 0, none⟩ = some (.int .i64 a0_0) ∧ w'.cell? ⟨gb382, 1, none⟩ = some (.int .i64 a0_1) ∧ w'.cell? ⟨gb383, 0, none⟩ = some (.int .i64 a1_0) ∧ w'.cell? ⟨gb383, 1, none⟩ = some (.int .i64 a1_1) ∧ w'.cell? ⟨gb384, 0, none⟩ = some (.int .i64 a2_0) ∧ w'.cell? ⟨gb384, 1, none⟩ = some (.int .i64 a2_1) ∧ w'.cell? ⟨gb385, 0, none⟩ = some (.int .i64 a3_0) ∧ w'.cell? ⟨gb385, 1, none⟩ = some (.int .i64 a3_1)) (ds := []) #[false, false, false, false, false, false, false, false, false, false, false, false, false, false, false, false, false, false, false, false, false, false, false, false, false, false, false, false, false, false, false, false, false, false, false, false, false, false, false, false, false, false, false, false] (by kernel_rfl) rfl rfl ⟨(blk_cell BK382.out 0).trans rfl, (blk_cell BK382.out 1).trans rfl, (blk_cell BK383.out 0).trans rfl, (blk_cell BK383.out 1).trans rfl, (blk_cell BK384.out 0).trans rfl, (blk_cell BK384.out 1).trans rfl, (blk_cell BK385.out 0).trans rfl, (blk_cell BK385.out 1).trans rfl⟩ (fun hHeld => ?_); refine with_tabW apogeelaw10_PointTells.tab1 apogeelaw10_PointTells.bits1 (fun HT_ HW_ => ?_)
     generalize w21.drew = w22 at BK382 BK383 BK384 BK385 HB hHeld ⊢
     refine one_ (i := 0) (N := some 9) #[true, false, false, false, false, false, false, false, false, false, false, false, false, false, false, false, false, false, false, false, false, false, false, false, false, false, false, false, false, false, false, false, false, false, false, false, false, false, false, false, false, false, false, false] rfl rfl (one_of HT_.out (by kernel_rfl)) (by decide) (fun K hK => ?_)
     refine goes_ Try.func15 (by kernel_rfl) rfl #[] (by rfl) rfl rfl (by (try simp only [List.map_toArray, List.map_cons, List.map_nil]); first | done | rfl | (simp only [List.length_drop, List.length_take]; rfl)) ?_
     with_reducible refine (apogeelaw10_awake.calls k  true _ A5.out).mono ?_
     rintro e w23 ⟨rfl, hb⟩
     refine ⟨_, rfl, ?_⟩
     have n0_ := bA (bB BK382 hb)
     have n1_ := bA (bB BK383 hb)
     have n2_ := bA (bB BK384 hb)
     have n3_ := bA (bB BK385 hb)
     have n4_ := bA (bS hb)
     clear BK382
     clear BK383
     clear BK384
     clear BK385
     clear HB
     have BK382 := n0_
     have BK383 := n1_
     have BK384 := n2_
     have BK385 := n3_
     have HB := n4_
     clear n0_ n1_ n2_ n3_ n4_
     (try clear hb)
     (try clear hb2)
     (try clear hk)
     (try clear hi)
     refine hK.out _ _ ⟨(blk_cell BK382.out 0).trans rfl, (blk_cell BK382.out 1).trans rfl, (blk_cell BK383.out 0).trans rfl, (blk_cell BK383.out 1).trans rfl, (blk_cell BK384.out 0).trans rfl, (blk_cell BK384.out 1).trans rfl, (blk_cell BK385.out 0).trans rfl, (blk_cell BK385.out 1).trans rfl⟩ (fun hHeld => ?_)
     clear hK K
     refine norm_ (a' := ?_) ?_ ?_
     rotate_left
     ·show Act.put _ (some 9) _ = _
      simp only [Act.put, List.setIfInBounds_toArray, List.set_cons_zero, List.set_cons_succ, i64_w, i32_w]
      rfl
     refine pure_ (i := 1) (N := some 10) (v := ?_) (a' := ?_) #[true, true, false, false, false, false, false, false, false, false, false, false, false, false, false, false, false, false, false, false, false, false, false, false, false, false, false, false, false, false, false, false, false, false, false, false, false, false, false, false, false, false, false, false] rfl rfl (any_of HT_.out (by kernel_rfl)) (fun _ _ _ h => h) (Or.inl ⟨by rfl, ?_⟩) ?_ ?_
     rotate_left
     ·intro w'
      go_simp
      with_reducible rfl
     rotate_left
     ·simp only [Act.put, List.setIfInBounds_toArray, List.set_cons_zero, List.set_cons_succ, i64_w, i32_w]
      rfl
     refine take_ (i := 2) (N := some 11) (v := ?_) (a' := ?_) #[true, true, true, false, false, false, false, false, false, false, false, false, false, false, false, false, false, false, false, false, false, false, false, false, false, false, false, false, false, false, false, false, false, false, false, false, false, false, false, false, false, false, false, false] rfl rfl (take_ofW HT_.out HW_.out (by kernel_rfl)) (fun _ _ _ h => h) (Or.inl ⟨by rfl, ?_⟩) hHeld ?_ ?_
     rotate_left
     ·rintro w' ⟨s0, s1, s2, s3, s4, s5, s6, s7⟩
      go_simp
      with_reducible rfl
     rotate_left
     ·simp only [Act.put, List.setIfInBounds_toArray, List.set_cons_zero, List.set_cons_succ, i64_w, i32_w]
      rfl
     refine take_ (i := 4) (N := some 13) (v := ?_) (a' := ?_) #[true, true, true, false, true, false, false, false, false, false, false, false, false, false, false, false, false, false, false, false, false, false, false, false, false, false, false, false, false, false, false, false, false, false, false, false, false, false, false, false, false, false, false, false] rfl rfl (take_ofW HT_.out HW_.out (by kernel_rfl)) (fun _ _ _ h => h) (Or.inl ⟨by rfl, ?_⟩) hHeld ?_ ?_
     rotate_left
     ·rintro w' ⟨s0, s1, s2, s3, s4, s5, s6, s7⟩
      go_simp
      with_reducible rfl
     rotate_left
     ·simp only [Act.put, List.setIfInBounds_toArray, List.set_cons_zero, List.set_cons_succ, i64_w, i32_w]
      rfl
     refine one_ (i := 3) (N := some 12) #[true, true, true, true, true, false, false, false, false, false, false, false, false, false, false, false, false, false, false, false, false, false, false, false, false, false, false, false, false, false, false, false, false, false, false, false, false, false, false, false, false, false, false, false] rfl rfl (one_of HT_.out (by kernel_rfl)) (by decide) (fun K hK => ?_)
     refine goes_ Try.func16 (by kernel_rfl) rfl #[.agg #[.int .i64 a0_0, .int .i64 a0_1]] (by rfl) rfl rfl (by (try simp only [List.map_toArray, List.map_cons, List.map_nil]); first | done | rfl | (simp only [List.length_drop, List.length_take]; rfl)) ?_
     with_reducible refine (point_Right.calls a0_0 a0_1 t387 _ A7.out).mono ?_
     rintro e w24 ⟨rfl, hb⟩
     refine ⟨_, rfl, ?_⟩
     have n0_ := bA (bB BK382 hb)
     have n1_ := bA (bB BK383 hb)
     have n2_ := bA (bB BK384 hb)
     have n3_ := bA (bB BK385 hb)
     have n4_ := bA (bS hb)
     clear BK382
     clear BK383
     clear BK384
     clear BK385
     clear HB
     have BK382 := n0_
     have BK383 := n1_
     have BK384 := n2_
     have BK385 := n3_
     have HB := n4_
     clear n0_ n1_ n2_ n3_ n4_
     (try clear hb)
     (try clear hb2)
     (try clear hk)
     (try clear hi)
     refine hK.out _ _ ⟨(blk_cell BK382.out 0).trans rfl, (blk_cell BK382.out 1).trans rfl, (blk_cell BK383.out 0).trans rfl, (blk_cell BK383.out 1).trans rfl, (blk_cell BK384.out 0).trans rfl, (blk_cell BK384.out 1).trans rfl, (blk_cell BK385.out 0).trans rfl, (blk_cell BK385.out 1).trans rfl⟩ (fun hHeld => ?_)
     clear hK K
     refine norm_ (a' := ?_) ?_ ?_
     rotate_left
     ·show Act.put _ (some 12) _ = _
      simp only [Act.put, List.setIfInBounds_toArray, List.set_cons_zero, List.set_cons_succ, i64_w, i32_w]
      rfl
     refine one_ (i := 5) (N := some 14) #[true, true, true, true, true, true, false, false, false, false, false, false, false, false, false, false, false, false, false, false, false, false, false, false, false, false, false, false, false, false, false, false, false, false, false, false, false, false, false, false, false, false, false, false] rfl rfl (one_of HT_.out (by kernel_rfl)) (by decide) (fun K hK => ?_)
     refine goes_ Try.func17 (by kernel_rfl) rfl #[.agg #[.int .i64 a0_0, .int .i64 a0_1]] (by rfl) rfl rfl (by (try simp only [List.map_toArray, List.map_cons, List.map_nil]); first | done | rfl | (simp only [List.length_drop, List.length_take]; rfl)) ?_
     with_reducible refine (apogeeref10_Right.calls a0_0 a0_1 t388 _ A8.out).mono ?_
     rintro e w25 ⟨rfl, hb⟩
     refine ⟨_, rfl, ?_⟩
     have n0_ := bA (bB BK382 hb)
     have n1_ := bA (bB BK383 hb)
     have n2_ := bA (bB BK384 hb)
     have n3_ := bA (bB BK385 hb)
     have n4_ := bA (bS hb)
     clear BK382
     clear BK383
     clear BK384
     clear BK385
     clear HB
     have BK382 := n0_
     have BK383 := n1_
     have BK384 := n2_
     have BK385 := n3_
     have HB := n4_
     clear n0_ n1_ n2_ n3_ n4_
     (try clear hb)
     (try clear hb2)
     (try clear hk)
     (try clear hi)
     refine hK.out _ _ ⟨(blk_cell BK382.out 0).trans rfl, (blk_cell BK382.out 1).trans rfl, (blk_cell BK383.out 0).trans rfl, (blk_cell BK383.out 1).trans rfl, (blk_cell BK384.out 0).trans rfl, (blk_cell BK384.out 1).trans rfl, (blk_cell BK385.out 0).trans rfl, (blk_cell BK385.out 1).trans rfl⟩ (fun hHeld => ?_)
     clear hK K
     refine norm_ (a' := ?_) ?_ ?_
     rotate_left
     ·show Act.put _ (some 14) _ = _
      simp only [Act.put, List.setIfInBounds_toArray, List.set_cons_zero, List.set_cons_succ, i64_w, i32_w]
      rfl
     refine pure_ (i := 6) (N := some 15) (v := ?_) (a' := ?_) #[true, true, true, true, true, true, true, false, false, false, false, false, false, false, false, false, false, false, false, false, false, false, false, false, false, false, false, false, false, false, false, false, false, false, false, false, false, false, false, false, false, false, false, false] rfl rfl (any_of HT_.out (by kernel_rfl)) (fun _ _ _ h => h) (Or.inl ⟨by rfl, ?_⟩) ?_ ?_
     rotate_left
     ·intro w'
      go_simp
      with_reducible rfl
     rotate_left
     ·simp only [Act.put, List.setIfInBounds_toArray, List.set_cons_zero, List.set_cons_succ, i64_w, i32_w]
      rfl
     refine pure_ (i := 7) (N := some 16) (v := ?_) (a' := ?_) #[true, true, true, true, true, true, true, true, false, false, false, false, false, false, false, false, false, false, false, false, false, false, false, false, false, false, false, false, false, false, false, false, false, false, false, false, false, false, false, false, false, false, false, false] rfl rfl (any_of HT_.out (by kernel_rfl)) (fun _ _ _ h => h) (Or.inl ⟨by rfl, ?_⟩) ?_ ?_
     rotate_left
     ·intro w'
      go_simp
      with_reducible rfl
     rotate_left
     ·simp only [Act.put, List.setIfInBounds_toArray, List.set_cons_zero, List.set_cons_succ, i64_w, i32_w]
      rfl
     refine pure_ (i := 8) (N := some 17) (v := ?_) (a' := ?_) #[true, true, true, true, true, true, true, true, true, false, false, false, false, false, false, false, false, false, false, false, false, false, false, false, false, false, false, false, false, false, false, false, false, false, false, false, false, false, false, false, false, false, false, false] rfl rfl (any_of HT_.out (by kernel_rfl)) (fun _ _ _ h => h) (Or.inl ⟨by rfl, ?_⟩) ?_ ?_
     rotate_left
     ·intro w'
      go_simp
      with_reducible rfl
     rotate_left
     ·simp only [Act.put, List.setIfInBounds_toArray, List.set_cons_zero, List.set_cons_succ, i64_w, i32_w]
      rfl
     refine take_ (i := 9) (N := some 18) (v := ?_) (a' := ?_) #[true, true, true, true, true, true, true, true, true, true, false, false, false, false, false, false, false, false, false, false, false, false, false, false, false, false, false, false, false, false, false, false, false, false, false, false, false, false, false, false, false, false, false, false] rfl rfl (take_ofW HT_.out HW_.out (by kernel_rfl)) (fun _ _ _ h => h) (Or.inl ⟨by rfl, ?_⟩) hHeld ?_ ?_
     rotate_left
     ·rintro w' ⟨s0, s1, s2, s3, s4, s5, s6, s7⟩
      go_simp
      with_reducible rfl
     rotate_left
     ·simp only [Act.put, List.setIfInBounds_toArray, List.set_cons_zero, List.set_cons_succ, i64_w, i32_w]
      rfl
     refine take_ (i := 10) (N := some 19) (v := ?_) (a' := ?_) #[true, true, true, true, true, true, true, true, true, true, true, false, false, false, false, false, false, false, false, false, false, false, false, false, false, false, false, false, false, false, false, false, false, false, false, false, false, false, false, false, false, false, false, false] rfl rfl (take_ofW HT_.out HW_.out (by kernel_rfl)) (fun _ _ _ h => h) (Or.inl ⟨by rfl, ?_⟩) hHeld ?_ ?_
     rotate_left
     ·rintro w' ⟨s0, s1, s2, s3, s4, s5, s6, s7⟩
      go_simp
      with_reducible rfl
     rotate_left
     ·simp only [Act.put, List.setIfInBounds_toArray, List.set_cons_zero, List.set_cons_succ, i64_w, i32_w]
      rfl
     refine take_ (i := 11) (N := some 20) (v := ?_) (a' := ?_) #[true, true, true, true, true, true, true, true, true, true, true, true, false, false, false, false, false, false, false, false, false, false, false, false, false, false, false, false, false, false, false, false, false, false, false, false, false, false, false, false, false, false, false, false] rfl rfl (take_ofW HT_.out HW_.out (by kernel_rfl)) (fun _ _ _ h => h) (Or.inl ⟨by rfl, ?_⟩) hHeld ?_ ?_
     rotate_left
     ·rintro w' ⟨s0, s1, s2, s3, s4, s5, s6, s7⟩
      go_simp
      with_reducible rfl
     rotate_left
     ·simp only [Act.put, List.setIfInBounds_toArray, List.set_cons_zero, List.set_cons_succ, i64_w, i32_w]
      rfl
     refine take_ (i := 13) (N := some 22) (v := ?_) (a' := ?_) #[true, true, true, true, true, true, true, true, true, true, true, true, false, true, false, false, false, false, false, false, false, false, false, false, false, false, false, false, false, false, false, false, false, false, false, false, false, false, false, false, false, false, false, false] rfl rfl (take_ofW HT_.out HW_.out (by kernel_rfl)) (fun _ _ _ h => h) (Or.inl ⟨by rfl, ?_⟩) hHeld ?_ ?_
     rotate_left
     ·rintro w' ⟨s0, s1, s2, s3, s4, s5, s6, s7⟩
      go_simp
      with_reducible rfl
     rotate_left
     ·simp only [Act.put, List.setIfInBounds_toArray, List.set_cons_zero, List.set_cons_succ, i64_w, i32_w]
      rfl
     refine take_ (i := 14) (N := some 23) (v := ?_) (a' := ?_) #[true, true, true, true, true, true, true, true, true, true, true, true, false, true, true, false, false, false, false, false, false, false, false, false, false, false, false, false, false, false, false, false, false, false, false, false, false, false, false, false, false, false, false, false] rfl rfl (take_ofW HT_.out HW_.out (by kernel_rfl)) (fun _ _ _ h => h) (Or.inl ⟨by rfl, ?_⟩) hHeld ?_ ?_
     rotate_left
     ·rintro w' ⟨s0, s1, s2, s3, s4, s5, s6, s7⟩
      go_simp
      with_reducible rfl
     rotate_left
     ·simp only [Act.put, List.setIfInBounds_toArray, List.set_cons_zero, List.set_cons_succ, i64_w, i32_w]
      rfl
     refine take_ (i := 15) (N := some 24) (v := ?_) (a' := ?_) #[true, true, true, true, true, true, true, true, true, true, true, true, false, true, true, true, false, false, false, false, false, false, false, false, false, false, false, false, false, false, false, false, false, false, false, false, false, false, false, false, false, false, false, false] rfl rfl (take_ofW HT_.out HW_.out (by kernel_rfl)) (fun _ _ _ h => h) (Or.inl ⟨by rfl, ?_⟩) hHeld ?_ ?_
     rotate_left
     ·rintro w' ⟨s0, s1, s2, s3, s4, s5, s6, s7⟩
      go_simp
      with_reducible rfl
     rotate_left
     ·simp only [Act.put, List.setIfInBounds_toArray, List.set_cons_zero, List.set_cons_succ, i64_w, i32_w]
      rfl
     refine one_ (i := 12) (N := some 21) #[true, true, true, true, true, true, true, true, true, true, true, true, true, true, true, true, false, false, false, false, false, false, false, false, false, false, false, false, false, false, false, false, false, false, false, false, false, false, false, false, false, false, false, false] rfl rfl (one_of HT_.out (by kernel_rfl)) (by decide) (fun K hK => ?_)
     refine goes_ Try.func18 (by kernel_rfl) rfl #[.agg #[.int .i64 a0_0, .int .i64 a0_1], .agg #[.int .i64 a1_0, .int .i64 a1_1], .agg #[.int .i64 a2_0, .int .i64 a2_1]] (by rfl) rfl rfl (by (try simp only [List.map_toArray, List.map_cons, List.map_nil]); first | done | rfl | (simp only [List.length_drop, List.length_take]; rfl)) ?_
     with_reducible refine (point_Turn.calls k a0_0 a0_1 a1_0 a1_1 a2_0 a2_1 t389 _ A10.out).mono ?_
     rintro e w26 ⟨rfl, hb⟩
     refine ⟨_, rfl, ?_⟩
     have n0_ := bA (bB BK382 hb)
     have n1_ := bA (bB BK383 hb)
     have n2_ := bA (bB BK384 hb)
     have n3_ := bA (bB BK385 hb)
     have n4_ := bA (bS hb)
     clear BK382
     clear BK383
     clear BK384
     clear BK385
     clear HB
     have BK382 := n0_
     have BK383 := n1_
     have BK384 := n2_
     have BK385 := n3_
     have HB := n4_
     clear n0_ n1_ n2_ n3_ n4_
     (try clear hb)
     (try clear hb2)
     (try clear hk)
     (try clear hi)
     refine hK.out _ _ ⟨(blk_cell BK382.out 0).trans rfl, (blk_cell BK382.out 1).trans rfl, (blk_cell BK383.out 0).trans rfl, (blk_cell BK383.out 1).trans rfl, (blk_cell BK384.out 0).trans rfl, (blk_cell BK384.out 1).trans rfl, (blk_cell BK385.out 0).trans rfl, (blk_cell BK385.out 1).trans rfl⟩ (fun hHeld => ?_)
     clear hK K
     refine norm_ (a' := ?_) ?_ ?_
     rotate_left
     ·show Act.put _ (some 21) _ = _
      simp only [Act.put, List.setIfInBounds_toArray, List.set_cons_zero, List.set_cons_succ, i64_w, i32_w]
      rfl
     refine one_ (i := 16) (N := some 25) #[true, true, true, true, true, true, true, true, true, true, true, true, true, true, true, true, true, false, false, false, false, false, false, false, false, false, false, false, false, false, false, false, false, false, false, false, false, false, false, false, false, false, false, false] rfl rfl (one_of HT_.out (by kernel_rfl)) (by decide) (fun K hK => ?_)
     refine goes_ Try.func19 (by kernel_rfl) rfl #[.agg #[.int .i64 a0_0, .int .i64 a0_1], .agg #[.int .i64 a1_0, .int .i64 a1_1], .agg #[.int .i64 a2_0, .int .i64 a2_1]] (by rfl) rfl rfl (by (try simp only [List.map_toArray, List.map_cons, List.map_nil]); first | done | rfl | (simp only [List.length_drop, List.length_take]; rfl)) ?_
     with_reducible refine (apogeeref10_Turn.calls k a0_0 a0_1 a1_0 a1_1 a2_0 a2_1 t390 _ A11.out).mono ?_
     rintro e w27 ⟨rfl, hb⟩
     refine ⟨_, rfl, ?_⟩
     have n0_ := bA (bB BK382 hb)
     have n1_ := bA (bB BK383 hb)
     have n2_ := bA (bB BK384 hb)
     have n3_ := bA (bB BK385 hb)
     have n4_ := bA (bS hb)
     clear BK382
     clear BK383
     clear BK384
     clear BK385
     clear HB
     have BK382 := n0_
     have BK383 := n1_
     have BK384 := n2_
     have BK385 := n3_
     have HB := n4_
     clear n0_ n1_ n2_ n3_ n4_
     (try clear hb)
     (try clear hb2)
     (try clear hk)
     (try clear hi)
     refine hK.out _ _ ⟨(blk_cell BK382.out 0).trans rfl, (blk_cell BK382.out 1).trans rfl, (blk_cell BK383.out 0).trans rfl, (blk_cell BK383.out 1).trans rfl, (blk_cell BK384.out 0).trans rfl, (blk_cell BK384.out 1).trans rfl, (blk_cell BK385.out 0).trans rfl, (blk_cell BK385.out 1).trans rfl⟩ (fun hHeld => ?_)
     clear hK K
     refine norm_ (a' := ?_) ?_ ?_
     rotate_left
     ·show Act.put _ (some 25) _ = _
      simp only [Act.put, List.setIfInBounds_toArray, List.set_cons_zero, List.set_cons_succ, i64_w, i32_w]
      rfl
     refine pure_ (i := 17) (N := some 26) (v := ?_) (a' := ?_) #[true, true, true, true, true, true, true, true, true, true, true, true, true, true, true, true, true, true, false, false, false, false, false, false, false, false, false, false, false, false, false, false, false, false, false, false, false, false, false, false, false, false, false, false] rfl rfl (any_of HT_.out (by kernel_rfl)) (fun _ _ _ h => h) (Or.inl ⟨by rfl, ?_⟩) ?_ ?_
     rotate_left
     ·intro w'
      go_simp
      with_reducible rfl
     rotate_left
     ·simp only [Act.put, List.setIfInBounds_toArray, List.set_cons_zero, List.set_cons_succ, i64_w, i32_w]
      rfl
     refine pure_ (i := 18) (N := some 27) (v := ?_) (a' := ?_) #[true, true, true, true, true, true, true, true, true, true, true, true, true, true, true, true, true, true, true, false, false, false, false, false, false, false, false, false, false, false, false, false, false, false, false, false, false, false, false, false, false, false, false, false] rfl rfl (any_of HT_.out (by kernel_rfl)) (fun _ _ _ h => h) (Or.inl ⟨by rfl, ?_⟩) ?_ ?_
     rotate_left
     ·intro w'
      go_simp
      with_reducible rfl
     rotate_left
     ·simp only [Act.put, List.setIfInBounds_toArray, List.set_cons_zero, List.set_cons_succ, i64_w, i32_w]
      rfl
     refine pure_ (i := 19) (N := some 28) (v := ?_) (a' := ?_) #[true, true, true, true, true, true, true, true, true, true, true, true, true, true, true, true, true, true, true, true, false, false, false, false, false, false, false, false, false, false, false, false, false, false, false, false, false, false, false, false, false, false, false, false] rfl rfl (any_of HT_.out (by kernel_rfl)) (fun _ _ _ h => h) (Or.inl ⟨by rfl, ?_⟩) ?_ ?_
     rotate_left
     ·intro w'
      go_simp
      with_reducible rfl
     rotate_left
     ·simp only [Act.put, List.setIfInBounds_toArray, List.set_cons_zero, List.set_cons_succ, i64_w, i32_w]
      rfl
     refine take_ (i := 20) (N := some 29) (v := ?_) (a' := ?_) #[true, true, true, true, true, true, true, true, true, true, true, true, true, true, true, true, true, true, true, true, true, false, false, false, false, false, false, false, false, false, false, false, false, false, false, false, false, false, false, false, false, false, false, false] rfl rfl (take_ofW HT_.out HW_.out (by kernel_rfl)) (fun _ _ _ h => h) (Or.inl ⟨by rfl, ?_⟩) hHeld ?_ ?_
     rotate_left
     ·rintro w' ⟨s0, s1, s2, s3, s4, s5, s6, s7⟩
      go_simp
      with_reducible rfl
     rotate_left
     ·simp only [Act.put, List.setIfInBounds_toArray, List.set_cons_zero, List.set_cons_succ, i64_w, i32_w]
      rfl
     refine take_ (i := 21) (N := some 30) (v := ?_) (a' := ?_) #[true, true, true, true, true, true, true, true, true, true, true, true, true, true, true, true, true, true, true, true, true, true, false, false, false, false, false, false, false, false, false, false, false, false, false, false, false, false, false, false, false, false, false, false] rfl rfl (take_ofW HT_.out HW_.out (by kernel_rfl)) (fun _ _ _ h => h) (Or.inl ⟨by rfl, ?_⟩) hHeld ?_ ?_
     rotate_left
     ·rintro w' ⟨s0, s1, s2, s3, s4, s5, s6, s7⟩
      go_simp
      with_reducible rfl
     rotate_left
     ·simp only [Act.put, List.setIfInBounds_toArray, List.set_cons_zero, List.set_cons_succ, i64_w, i32_w]
      rfl
     refine take_ (i := 22) (N := some 31) (v := ?_) (a' := ?_) #[true, true, true, true, true, true, true, true, true, true, true, true, true, true, true, true, true, true, true, true, true, true, true, false, false, false, false, false, false, false, false, false, false, false, false, false, false, false, false, false, false, false, false, false] rfl rfl (take_ofW HT_.out HW_.out (by kernel_rfl)) (fun _ _ _ h => h) (Or.inl ⟨by rfl, ?_⟩) hHeld ?_ ?_
     rotate_left
     ·rintro w' ⟨s0, s1, s2, s3, s4, s5, s6, s7⟩
      go_simp
      with_reducible rfl
     rotate_left
     ·simp only [Act.put, List.setIfInBounds_toArray, List.set_cons_zero, List.set_cons_succ, i64_w, i32_w]
      rfl
     refine take_ (i := 24) (N := some 33) (v := ?_) (a' := ?_) #[true, true, true, true, true, true, true, true, true, true, true, true, true, true, true, true, true, true, true, true, true, true, true, false, true, false, false, false, false, false, false, false, false, false, false, false, false, false, false, false, false, false, false, false] rfl rfl (take_ofW HT_.out HW_.out (by kernel_rfl)) (fun _ _ _ h => h) (Or.inl ⟨by rfl, ?_⟩) hHeld ?_ ?_
     rotate_left
     ·rintro w' ⟨s0, s1, s2, s3, s4, s5, s6, s7⟩
      go_simp
      with_reducible rfl
     rotate_left
     ·simp only [Act.put, List.setIfInBounds_toArray, List.set_cons_zero, List.set_cons_succ, i64_w, i32_w]
      rfl
     refine take_ (i := 25) (N := some 34) (v := ?_) (a' := ?_) #[true, true, true, true, true, true, true, true, true, true, true, true, true, true, true, true, true, true, true, true, true, true, true, false, true, true, false, false, false, false, false, false, false, false, false, false, false, false, false, false, false, false, false, false] rfl rfl (take_ofW HT_.out HW_.out (by kernel_rfl)) (fun _ _ _ h => h) (Or.inl ⟨by rfl, ?_⟩) hHeld ?_ ?_
     rotate_left
     ·rintro w' ⟨s0, s1, s2, s3, s4, s5, s6, s7⟩
      go_simp
      with_reducible rfl
     rotate_left
     ·simp only [Act.put, List.setIfInBounds_toArray, List.set_cons_zero, List.set_cons_succ, i64_w, i32_w]
      rfl
     refine take_ (i := 26) (N := some 35) (v := ?_) (a' := ?_) #[true, true, true, true, true, true, true, true, true, true, true, true, true, true, true, true, true, true, true, true, true, true, true, false, true, true, true, false, false, false, false, false, false, false, false, false, false, false, false, false, false, false, false, false] rfl rfl (take_ofW HT_.out HW_.out (by kernel_rfl)) (fun _ _ _ h => h) (Or.inl ⟨by rfl, ?_⟩) hHeld ?_ ?_
     rotate_left
     ·rintro w' ⟨s0, s1, s2, s3, s4, s5, s6, s7⟩
      go_simp
      with_reducible rfl
     rotate_left
     ·simp only [Act.put, List.setIfInBounds_toArray, List.set_cons_zero, List.set_cons_succ, i64_w, i32_w]
      rfl
     refine one_ (i := 23) (N := some 32) #[true, true, true, true, true, true, true, true, true, true, true, true, true, true, true, true, true, true, true, true, true, true, true, true, true, true, true, false, false, false, false, false, false, false, false, false, false, false, false, false, false, false, false, false] rfl rfl (one_of HT_.out (by kernel_rfl)) (by decide) (fun K hK => ?_)
     refine goes_ Try.func20 (by kernel_rfl) rfl #[.agg #[.int .i64 a0_0, .int .i64 a0_1], .agg #[.int .i64 a1_0, .int .i64 a1_1], .agg #[.int .i64 a2_0, .int .i64 a2_1]] (by rfl) rfl rfl (by (try simp only [List.map_toArray, List.map_cons, List.map_nil]); first | done | rfl | (simp only [List.length_drop, List.length_take]; rfl)) ?_
     with_reducible refine (point_On.calls k a0_0 a0_1 a1_0 a1_1 a2_0 a2_1 t391 _ A13.out).mono ?_
     rintro e w28 ⟨rfl, hb⟩
     refine ⟨_, rfl, ?_⟩
     have n0_ := bA (bB BK382 hb)
     have n1_ := bA (bB BK383 hb)
     have n2_ := bA (bB BK384 hb)
     have n3_ := bA (bB BK385 hb)
     have n4_ := bA (bS hb)
     clear BK382
     clear BK383
     clear BK384
     clear BK385
     clear HB
     have BK382 := n0_
     have BK383 := n1_
     have BK384 := n2_
     have BK385 := n3_
     have HB := n4_
     clear n0_ n1_ n2_ n3_ n4_
     (try clear hb)
     (try clear hb2)
     (try clear hk)
     (try clear hi)
     refine hK.out _ _ ⟨(blk_cell BK382.out 0).trans rfl, (blk_cell BK382.out 1).trans rfl, (blk_cell BK383.out 0).trans rfl, (blk_cell BK383.out 1).trans rfl, (blk_cell BK384.out 0).trans rfl, (blk_cell BK384.out 1).trans rfl, (blk_cell BK385.out 0).trans rfl, (blk_cell BK385.out 1).trans rfl⟩ (fun hHeld => ?_)
     clear hK K
     refine norm_ (a' := ?_) ?_ ?_
     rotate_left
     ·show Act.put _ (some 32) _ = _
      simp only [Act.put, List.setIfInBounds_toArray, List.set_cons_zero, List.set_cons_succ, i64_w, i32_w]
      rfl
     refine one_ (i := 27) (N := some 36) #[true, true, true, true, true, true, true, true, true, true, true, true, true, true, true, true, true, true, true, true, true, true, true, true, true, true, true, true, false, false, false, false, false, false, false, false, false, false, false, false, false, false, false, false] rfl rfl (one_of HT_.out (by kernel_rfl)) (by decide) (fun K hK => ?_)
     refine goes_ Try.func21 (by kernel_rfl) rfl #[.agg #[.int .i64 a0_0, .int .i64 a0_1], .agg #[.int .i64 a1_0, .int .i64 a1_1], .agg #[.int .i64 a2_0, .int .i64 a2_1]] (by rfl) rfl rfl (by (try simp only [List.map_toArray, List.map_cons, List.map_nil]); first | done | rfl | (simp only [List.length_drop, List.length_take]; rfl)) ?_
     with_reducible refine (apogeeref10_On.calls k a0_0 a0_1 a1_0 a1_1 a2_0 a2_1 t392 _ A14.out).mono ?_
     rintro e w29 ⟨rfl, hb⟩
     refine ⟨_, rfl, ?_⟩
     have n0_ := bA (bB BK382 hb)
     have n1_ := bA (bB BK383 hb)
     have n2_ := bA (bB BK384 hb)
     have n3_ := bA (bB BK385 hb)
     have n4_ := bA (bS hb)
     clear BK382
     clear BK383
     clear BK384
     clear BK385
     clear HB
     have BK382 := n0_
     have BK383 := n1_
     have BK384 := n2_
     have BK385 := n3_
     have HB := n4_
     clear n0_ n1_ n2_ n3_ n4_
     (try clear hb)
     (try clear hb2)
     (try clear hk)
     (try clear hi)
     refine hK.out _ _ ⟨(blk_cell BK382.out 0).trans rfl, (blk_cell BK382.out 1).trans rfl, (blk_cell BK383.out 0).trans rfl, (blk_cell BK383.out 1).trans rfl, (blk_cell BK384.out 0).trans rfl, (blk_cell BK384.out 1).trans rfl, (blk_cell BK385.out 0).trans rfl, (blk_cell BK385.out 1).trans rfl⟩ (fun hHeld => ?_)
     clear hK K
     refine norm_ (a' := ?_) ?_ ?_
     rotate_left
     ·show Act.put _ (some 36) _ = _
      simp only [Act.put, List.setIfInBounds_toArray, List.set_cons_zero, List.set_cons_succ, i64_w, i32_w]
      rfl
     refine pure_ (i := 28) (N := some 37) (v := ?_) (a' := ?_) #[true, true, true, true, true, true, true, true, true, true, true, true, true, true, true, true, true, true, true, true, true, true, true, true, true, true, true, true, true, false, false, false, false, false, false, false, false, false, false, false, false, false, false, false] rfl rfl (any_of HT_.out (by kernel_rfl)) (fun _ _ _ h => h) (Or.inl ⟨by rfl, ?_⟩) ?_ ?_
     rotate_left
     ·intro w'
      go_simp
      with_reducible rfl
     rotate_left
     ·simp only [Act.put, List.setIfInBounds_toArray, List.set_cons_zero, List.set_cons_succ, i64_w, i32_w]
      rfl
     refine pure_ (i := 29) (N := some 38) (v := ?_) (a' := ?_) #[true, true, true, true, true, true, true, true, true, true, true, true, true, true, true, true, true, true, true, true, true, true, true, true, true, true, true, true, true, true, false, false, false, false, false, false, false, false, false, false, false, false, false, false] rfl rfl (any_of HT_.out (by kernel_rfl)) (fun _ _ _ h => h) (Or.inl ⟨by rfl, ?_⟩) ?_ ?_
     rotate_left
     ·intro w'
      go_simp
      with_reducible rfl
     rotate_left
     ·simp only [Act.put, List.setIfInBounds_toArray, List.set_cons_zero, List.set_cons_succ, i64_w, i32_w]
      rfl
     refine pure_ (i := 30) (N := some 39) (v := ?_) (a' := ?_) #[true, true, true, true, true, true, true, true, true, true, true, true, true, true, true, true, true, true, true, true, true, true, true, true, true, true, true, true, true, true, true, false, false, false, false, false, false, false, false, false, false, false, false, false] rfl rfl (any_of HT_.out (by kernel_rfl)) (fun _ _ _ h => h) (Or.inl ⟨by rfl, ?_⟩) ?_ ?_
     rotate_left
     ·intro w'
      go_simp
      with_reducible rfl
     rotate_left
     ·simp only [Act.put, List.setIfInBounds_toArray, List.set_cons_zero, List.set_cons_succ, i64_w, i32_w]
      rfl
     refine take_ (i := 31) (N := some 40) (v := ?_) (a' := ?_) #[true, true, true, true, true, true, true, true, true, true, true, true, true, true, true, true, true, true, true, true, true, true, true, true, true, true, true, true, true, true, true, true, false, false, false, false, false, false, false, false, false, false, false, false] rfl rfl (take_ofW HT_.out HW_.out (by kernel_rfl)) (fun _ _ _ h => h) (Or.inl ⟨by rfl, ?_⟩) hHeld ?_ ?_
     rotate_left
     ·rintro w' ⟨s0, s1, s2, s3, s4, s5, s6, s7⟩
      go_simp
      with_reducible rfl
     rotate_left
     ·simp only [Act.put, List.setIfInBounds_toArray, List.set_cons_zero, List.set_cons_succ, i64_w, i32_w]
      rfl
     refine take_ (i := 32) (N := some 41) (v := ?_) (a' := ?_) #[true, true, true, true, true, true, true, true, true, true, true, true, true, true, true, true, true, true, true, true, true, true, true, true, true, true, true, true, true, true, true, true, true, false, false, false, false, false, false, false, false, false, false, false] rfl rfl (take_ofW HT_.out HW_.out (by kernel_rfl)) (fun _ _ _ h => h) (Or.inl ⟨by rfl, ?_⟩) hHeld ?_ ?_
     rotate_left
     ·rintro w' ⟨s0, s1, s2, s3, s4, s5, s6, s7⟩
      go_simp
      with_reducible rfl
     rotate_left
     ·simp only [Act.put, List.setIfInBounds_toArray, List.set_cons_zero, List.set_cons_succ, i64_w, i32_w]
      rfl
     refine take_ (i := 33) (N := some 42) (v := ?_) (a' := ?_) #[true, true, true, true, true, true, true, true, true, true, true, true, true, true, true, true, true, true, true, true, true, true, true, true, true, true, true, true, true, true, true, true, true, true, false, false, false, false, false, false, false, false, false, false] rfl rfl (take_ofW HT_.out HW_.out (by kernel_rfl)) (fun _ _ _ h => h) (Or.inl ⟨by rfl, ?_⟩) hHeld ?_ ?_
     rotate_left
     ·rintro w' ⟨s0, s1, s2, s3, s4, s5, s6, s7⟩
      go_simp
      with_reducible rfl
     rotate_left
     ·simp only [Act.put, List.setIfInBounds_toArray, List.set_cons_zero, List.set_cons_succ, i64_w, i32_w]
      rfl
     refine take_ (i := 34) (N := some 43) (v := ?_) (a' := ?_) #[true, true, true, true, true, true, true, true, true, true, true, true, true, true, true, true, true, true, true, true, true, true, true, true, true, true, true, true, true, true, true, true, true, true, true, false, false, false, false, false, false, false, false, false] rfl rfl (take_ofW HT_.out HW_.out (by kernel_rfl)) (fun _ _ _ h => h) (Or.inl ⟨by rfl, ?_⟩) hHeld ?_ ?_
     rotate_left
     ·rintro w' ⟨s0, s1, s2, s3, s4, s5, s6, s7⟩
      go_simp
      with_reducible rfl
     rotate_left
     ·simp only [Act.put, List.setIfInBounds_toArray, List.set_cons_zero, List.set_cons_succ, i64_w, i32_w]
      rfl
     refine take_ (i := 36) (N := some 45) (v := ?_) (a' := ?_) #[true, true, true, true, true, true, true, true, true, true, true, true, true, true, true, true, true, true, true, true, true, true, true, true, true, true, true, true, true, true, true, true, true, true, true, false, true, false, false, false, false, false, false, false] rfl rfl (take_ofW HT_.out HW_.out (by kernel_rfl)) (fun _ _ _ h => h) (Or.inl ⟨by rfl, ?_⟩) hHeld ?_ ?_
     rotate_left
     ·rintro w' ⟨s0, s1, s2, s3, s4, s5, s6, s7⟩
      go_simp
      with_reducible rfl
     rotate_left
     ·simp only [Act.put, List.setIfInBounds_toArray, List.set_cons_zero, List.set_cons_succ, i64_w, i32_w]
      rfl
     refine take_ (i := 37) (N := some 46) (v := ?_) (a' := ?_) #[true, true, true, true, true, true, true, true, true, true, true, true, true, true, true, true, true, true, true, true, true, true, true, true, true, true, true, true, true, true, true, true, true, true, true, false, true, true, false, false, false, false, false, false] rfl rfl (take_ofW HT_.out HW_.out (by kernel_rfl)) (fun _ _ _ h => h) (Or.inl ⟨by rfl, ?_⟩) hHeld ?_ ?_
     rotate_left
     ·rintro w' ⟨s0, s1, s2, s3, s4, s5, s6, s7⟩
      go_simp
      with_reducible rfl
     rotate_left
     ·simp only [Act.put, List.setIfInBounds_toArray, List.set_cons_zero, List.set_cons_succ, i64_w, i32_w]
      rfl
     refine take_ (i := 38) (N := some 47) (v := ?_) (a' := ?_) #[true, true, true, true, true, true, true, true, true, true, true, true, true, true, true, true, true, true, true, true, true, true, true, true, true, true, true, true, true, true, true, true, true, true, true, false, true, true, true, false, false, false, false, false] rfl rfl (take_ofW HT_.out HW_.out (by kernel_rfl)) (fun _ _ _ h => h) (Or.inl ⟨by rfl, ?_⟩) hHeld ?_ ?_
     rotate_left
     ·rintro w' ⟨s0, s1, s2, s3, s4, s5, s6, s7⟩
      go_simp
      with_reducible rfl
     rotate_left
     ·simp only [Act.put, List.setIfInBounds_toArray, List.set_cons_zero, List.set_cons_succ, i64_w, i32_w]
      rfl
     refine take_ (i := 39) (N := some 48) (v := ?_) (a' := ?_) #[true, true, true, true, true, true, true, true, true, true, true, true, true, true, true, true, true, true, true, true, true, true, true, true, true, true, true, true, true, true, true, true, true, true, true, false, true, true, true, true, false, false, false, false] rfl rfl (take_ofW HT_.out HW_.out (by kernel_rfl)) (fun _ _ _ h => h) (Or.inl ⟨by rfl, ?_⟩) hHeld ?_ ?_
     rotate_left
     ·rintro w' ⟨s0, s1, s2, s3, s4, s5, s6, s7⟩
      go_simp
      with_reducible rfl
     rotate_left
     ·simp only [Act.put, List.setIfInBounds_toArray, List.set_cons_zero, List.set_cons_succ, i64_w, i32_w]
      rfl
     refine one_ (i := 35) (N := some 44) #[true, true, true, true, true, true, true, true, true, true, true, true, true, true, true, true, true, true, true, true, true, true, true, true, true, true, true, true, true, true, true, true, true, true, true, true, true, true, true, true, false, false, false, false] rfl rfl (one_of HT_.out (by kernel_rfl)) (by decide) (fun K hK => ?_)
     refine goes_ Try.func22 (by kernel_rfl) rfl #[.agg #[.int .i64 a0_0, .int .i64 a0_1], .agg #[.int .i64 a1_0, .int .i64 a1_1], .agg #[.int .i64 a2_0, .int .i64 a2_1], .agg #[.int .i64 a3_0, .int .i64 a3_1]] (by rfl) rfl rfl (by (try simp only [List.map_toArray, List.map_cons, List.map_nil]); first | done | rfl | (simp only [List.length_drop, List.length_take]; rfl)) ?_
     with_reducible refine (point_Meet.calls k a0_0 a0_1 a1_0 a1_1 a2_0 a2_1 a3_0 a3_1 t393 _ A16.out).mono ?_
     rintro e w30 ⟨rfl, hb⟩
     refine ⟨_, rfl, ?_⟩
     have n0_ := bA (bB BK382 hb)
     have n1_ := bA (bB BK383 hb)
     have n2_ := bA (bB BK384 hb)
     have n3_ := bA (bB BK385 hb)
     have n4_ := bA (bS hb)
     clear BK382
     clear BK383
     clear BK384
     clear BK385
     clear HB
     have BK382 := n0_
     have BK383 := n1_
     have BK384 := n2_
     have BK385 := n3_
     have HB := n4_
     clear n0_ n1_ n2_ n3_ n4_
     (try clear hb)
     (try clear hb2)
     (try clear hk)
     (try clear hi)
     refine hK.out _ _ ⟨(blk_cell BK382.out 0).trans rfl, (blk_cell BK382.out 1).trans rfl, (blk_cell BK383.out 0).trans rfl, (blk_cell BK383.out 1).trans rfl, (blk_cell BK384.out 0).trans rfl, (blk_cell BK384.out 1).trans rfl, (blk_cell BK385.out 0).trans rfl, (blk_cell BK385.out 1).trans rfl⟩ (fun hHeld => ?_)
     clear hK K
     refine norm_ (a' := ?_) ?_ ?_
     rotate_left
     ·show Act.put _ (some 44) _ = _
      simp only [Act.put, List.setIfInBounds_toArray, List.set_cons_zero, List.set_cons_succ, i64_w, i32_w]
      rfl
     refine one_ (i := 40) (N := some 49) #[true, true, true, true, true, true, true, true, true, true, true, true, true, true, true, true, true, true, true, true, true, true, true, true, true, true, true, true, true, true, true, true, true, true, true, true, true, true, true, true, true, false, false, false] rfl rfl (one_of HT_.out (by kernel_rfl)) (by decide) (fun K hK => ?_)
     refine goes_ Try.func23 (by kernel_rfl) rfl #[.agg #[.int .i64 a0_0, .int .i64 a0_1], .agg #[.int .i64 a1_0, .int .i64 a1_1], .agg #[.int .i64 a2_0, .int .i64 a2_1], .agg #[.int .i64 a3_0, .int .i64 a3_1]] (by rfl) rfl rfl (by (try simp only [List.map_toArray, List.map_cons, List.map_nil]); first | done | rfl | (simp only [List.length_drop, List.length_take]; rfl)) ?_
     with_reducible refine (apogeeref10_Meet.calls k a0_0 a0_1 a1_0 a1_1 a2_0 a2_1 a3_0 a3_1 t394 _ A17.out).mono ?_
     rintro e w31 ⟨rfl, hb⟩
     refine ⟨_, rfl, ?_⟩
     have n0_ := bA (bB BK382 hb)
     have n1_ := bA (bB BK383 hb)
     have n2_ := bA (bB BK384 hb)
     have n3_ := bA (bB BK385 hb)
     have n4_ := bA (bS hb)
     clear BK382
     clear BK383
     clear BK384
     clear BK385
     clear HB
     have BK382 := n0_
     have BK383 := n1_
     have BK384 := n2_
     have BK385 := n3_
     have HB := n4_
     clear n0_ n1_ n2_ n3_ n4_
     (try clear hb)
     (try clear hb2)
     (try clear hk)
     (try clear hi)
     refine hK.out _ _ ⟨(blk_cell BK382.out 0).trans rfl, (blk_cell BK382.out 1).trans rfl, (blk_cell BK383.out 0).trans rfl, (blk_cell BK383.out 1).trans rfl, (blk_cell BK384.out 0).trans rfl, (blk_cell BK384.out 1).trans rfl, (blk_cell BK385.out 0).trans rfl, (blk_cell BK385.out 1).trans rfl⟩ (fun hHeld => ?_)
     clear hK K
     refine norm_ (a' := ?_) ?_ ?_
     rotate_left
     ·show Act.put _ (some 49) _ = _
      simp only [Act.put, List.setIfInBounds_toArray, List.set_cons_zero, List.set_cons_succ, i64_w, i32_w]
      rfl
     refine pure_ (i := 41) (N := some 50) (v := ?_) (a' := ?_) #[true, true, true, true, true, true, true, true, true, true, true, true, true, true, true, true, true, true, true, true, true, true, true, true, true, true, true, true, true, true, true, true, true, true, true, true, true, true, true, true, true, true, false, false] rfl rfl (any_of HT_.out (by kernel_rfl)) (fun _ _ _ h => h) (Or.inl ⟨by rfl, ?_⟩) ?_ ?_
     rotate_left
     ·intro w'
      go_simp
      with_reducible rfl
     rotate_left
     ·simp only [Act.put, List.setIfInBounds_toArray, List.set_cons_zero, List.set_cons_succ, i64_w, i32_w]
      rfl
     refine pure_ (i := 42) (N := some 51) (v := ?_) (a' := ?_) #[true, true, true, true, true, true, true, true, true, true, true, true, true, true, true, true, true, true, true, true, true, true, true, true, true, true, true, true, true, true, true, true, true, true, true, true, true, true, true, true, true, true, true, false] rfl rfl (any_of HT_.out (by kernel_rfl)) (fun _ _ _ h => h) (Or.inl ⟨by rfl, ?_⟩) ?_ ?_
     rotate_left
     ·intro w'
      go_simp
      with_reducible rfl
     rotate_left
     ·simp only [Act.put, List.setIfInBounds_toArray, List.set_cons_zero, List.set_cons_succ, i64_w, i32_w]
      rfl
     refine pure_ (i := 43) (N := some 8) (v := ?_) (a' := ?_) #[true, true, true, true, true, true, true, true, true, true, true, true, true, true, true, true, true, true, true, true, true, true, true, true, true, true, true, true, true, true, true, true, true, true, true, true, true, true, true, true, true, true, true, true] rfl rfl (any_of HT_.out (by kernel_rfl)) (fun _ _ _ h => h) (Or.inl ⟨by rfl, ?_⟩) ?_ ?_
     rotate_left
     ·intro w'
      go_simp
      with_reducible rfl
     rotate_left
     ·simp only [Act.put, List.setIfInBounds_toArray, List.set_cons_zero, List.set_cons_succ, i64_w, i32_w]
      rfl
     refine done_ (done_of HT_.out (by kernel_rfl)) ?_
     try go_wp2
     go_ret
     exact bF
    ·rw [if_neg c15] at H
     have c15b0 : (t391 == t392) = false := by simpa using c15
     (try (have c15b1 : decide (t391 = t392) = false := by simpa using c15))
     (try (have c15b2 : (t391 == t392) = false := by simpa using c15))
     (try (have c15b3 : ¬ (t391 = t392) := by simpa using c15))
     clear c15
     exact absurd H (by simp)
   ·rw [if_neg c12] at H
    have c12b0 : (t389 == t390) = false := beq_eq_false_iff_ne.mpr c12
    have c12b1 : (t389 != t390) = true := bne_iff_ne.mpr c12
    exact absurd H (by simp)
  ·rw [if_neg c9] at H
   have c9b0 : (t387 == t388) = false := by simpa using c9
   (try (have c9b1 : decide (t387 = t388) = false := by simpa using c9))
   (try (have c9b2 : (t387 == t388) = false := by simpa using c9))
   (try (have c9b3 : ¬ (t387 = t388) := by simpa using c9))
   clear c9
   exact absurd H (by simp)
 ·replace c6 := Bool.eq_false_iff.mpr c6
  subst c6
  rw [if_neg (show ¬ (false = true) by decide)] at H
  exact absurd H (by simp)
/-! ### apogeelaw18_Held: function 24 -/
def apogeelaw18_Held.f (a0_0 : Int) (a0_1 : Int) (a0_2 : Int) (a0_3 : Int) (a0_4 : Int) (a0_5 : Int) (a0_6 : Int) (a0_7 : Int) : Option (Int × Int × Int × Int × Int × Int × Int × Int) := some (a0_0, a0_1, Int.tmod a0_2 1073741824, Int.tmod a0_3 1073741824, Go.bits .and .i64 a0_4 1073741823, Int.tmod a0_5 65536, Int.tmod a0_6 65536, Int.tmod a0_7 65536)
set_option maxHeartbeats 8000000 in
set_option maxRecDepth 100000 in
theorem apogeelaw18_Held.calls (a0_0 : Int) (a0_1 : Int) (a0_2 : Int) (a0_3 : Int) (a0_4 : Int) (a0_5 : Int) (a0_6 : Int) (a0_7 : Int) (r1 : Int) (r2 : Int) (r3 : Int) (r4 : Int) (r5 : Int) (r6 : Int) (r7 : Int) (r8 : Int) (w : World) (h : apogeelaw18_Held.f a0_0 a0_1 a0_2 a0_3 a0_4 a0_5 a0_6 a0_7 = some (r1, r2, r3, r4, r5, r6, r7, r8)) :
  Calls Try.prog 24 #[.agg #[.int .i64 a0_0, .int .i64 a0_1, .int .i64 a0_2, .int .i64 a0_3, .int .i64 a0_4, .int .i64 a0_5, .int .i64 a0_6, .int .i64 a0_7]] w fun e w' => e = .returned (.agg #[.int .i64 r1, .int .i64 r2, .int .i64 r3, .int .i64 r4, .int .i64 r5, .int .i64 r6, .int .i64 r7, .int .i64 r8]) ∧ Below w.heap.size w w' := by
 have hu37 := Try.underlying37
 have HB := bA (Below.refl w.heap.size w)
 have H : (some (a0_0, a0_1, Int.tmod a0_2 1073741824, Int.tmod a0_3 1073741824, Go.bits .and .i64 a0_4 1073741823, Int.tmod a0_5 65536, Int.tmod a0_6 65536, Int.tmod a0_7 65536)) = some (r1, r2, r3, r4, r5, r6, r7, r8) := h
 clear h
 simp only [Option.some.injEq, Prod.mk.injEq] at H
 obtain ⟨rfl, rfl, rfl, rfl, rfl, rfl, rfl, rfl⟩ := H
 go_enter Try.func24, Try.ntmps24
 go_wp2_with (first | ((with_reducible refine gate_dst (N := 1) rfl ?_); refine bE (N := 1) (cs := #[.int .i64 a0_0, .int .i64 a0_1, .int .i64 a0_2, .int .i64 a0_3, .int .i64 a0_4, .int .i64 a0_5, .int .i64 a0_6, .int .i64 a0_7]) (t := 37) ?_; intro gb395 hg w2 hbox hb; have n0_ := bA (bS hb); have n1_ := bA (hbox); have n2_ := bA ((bZ hg : w.heap.size ≤ gb395)); have n3_ := bA ((bZ hg : w.heap.size ≤ gb395)); clear HB; have HB := n0_; have BK395 := n1_; have GW395 := n2_; have GE395 := n3_; clear n0_ n1_ n2_ n3_; clear hb hbox hg) | ((with_reducible refine gate_dst (N := 2) rfl ?_); refine bE (N := 2) (cs := #[.int .i64 0, .int .i64 0, .int .i64 0, .int .i64 0, .int .i64 0, .int .i64 0, .int .i64 0, .int .i64 0]) (t := 37) ?_; intro gb396 hg w3 hbox hb; have n0_ := bA (bB BK395 hb); have n1_ := bA (bS hb); have n2_ := bA (hbox); have n3_ := bA ((bZ hg : w.heap.size ≤ gb396)); have n4_ := bA ((bZ hg : w.heap.size ≤ gb396)); have n5_ := bA ((bL BK395 hg : gb395 ≠ gb396)); have n6_ := bA ((bG BK395 hg : gb396 ≠ gb395)); clear BK395; clear HB; have BK395 := n0_; have HB := n1_; have BK396 := n2_; have GW396 := n3_; have GE396 := n4_; have NB395_396 := n5_; have NB396_395 := n6_; clear n0_ n1_ n2_ n3_ n4_ n5_ n6_; clear hb hbox hg; have hnb4 := NB395_396.out; have hnc4 := NB396_395.out; have hcz5_0 : w3.cell? ⟨gb395, 0, none⟩ = some (.int .i64 a0_0) := (blk_cell BK395.out 0).trans rfl; have hcz5_1 : w3.cell? ⟨gb395, 1, none⟩ = some (.int .i64 a0_1) := (blk_cell BK395.out 1).trans rfl; have hcz5_2 : w3.cell? ⟨gb395, 2, none⟩ = some (.int .i64 a0_2) := (blk_cell BK395.out 2).trans rfl; have hcz5_3 : w3.cell? ⟨gb395, 3, none⟩ = some (.int .i64 a0_3) := (blk_cell BK395.out 3).trans rfl; have hcz5_4 : w3.cell? ⟨gb395, 4, none⟩ = some (.int .i64 a0_4) := (blk_cell BK395.out 4).trans rfl; have hcz5_5 : w3.cell? ⟨gb395, 5, none⟩ = some (.int .i64 a0_5) := (blk_cell BK395.out 5).trans rfl; have hcz5_6 : w3.cell? ⟨gb395, 6, none⟩ = some (.int .i64 a0_6) := (blk_cell BK395.out 6).trans rfl; have hcz5_7 : w3.cell? ⟨gb395, 7, none⟩ = some (.int .i64 a0_7) := (blk_cell BK395.out 7).trans rfl; have hfz5_0 := blk_frozen BK395.out 0; have hfz5_1 := blk_frozen BK395.out 1; have hfz5_2 := blk_frozen BK395.out 2; have hfz5_3 := blk_frozen BK395.out 3; have hfz5_4 := blk_frozen BK395.out 4; have hfz5_5 := blk_frozen BK395.out 5; have hfz5_6 := blk_frozen BK395.out 6; have hfz5_7 := blk_frozen BK395.out 7; have hcz6_0 : w3.cell? ⟨gb396, 0, none⟩ = some (.int .i64 0) := (blk_cell BK396.out 0).trans rfl; have hcz6_1 : w3.cell? ⟨gb396, 1, none⟩ = some (.int .i64 0) := (blk_cell BK396.out 1).trans rfl; have hcz6_2 : w3.cell? ⟨gb396, 2, none⟩ = some (.int .i64 0) := (blk_cell BK396.out 2).trans rfl; have hcz6_3 : w3.cell? ⟨gb396, 3, none⟩ = some (.int .i64 0) := (blk_cell BK396.out 3).trans rfl; have hcz6_4 : w3.cell? ⟨gb396, 4, none⟩ = some (.int .i64 0) := (blk_cell BK396.out 4).trans rfl; have hcz6_5 : w3.cell? ⟨gb396, 5, none⟩ = some (.int .i64 0) := (blk_cell BK396.out 5).trans rfl; have hcz6_6 : w3.cell? ⟨gb396, 6, none⟩ = some (.int .i64 0) := (blk_cell BK396.out 6).trans rfl; have hcz6_7 : w3.cell? ⟨gb396, 7, none⟩ = some (.int .i64 0) := (blk_cell BK396.out 7).trans rfl; have hfz6_0 := blk_frozen BK396.out 0; have hfz6_1 := blk_frozen BK396.out 1; have hfz6_2 := blk_frozen BK396.out 2; have hfz6_3 := blk_frozen BK396.out 3; have hfz6_4 := blk_frozen BK396.out 4; have hfz6_5 := blk_frozen BK396.out 5; have hfz6_6 := blk_frozen BK396.out 6; have hfz6_7 := blk_frozen BK396.out 7))
 refine bodyPost_ret (results_cell_row rfl _ _ gb396 37 #[.int .i64 a0_0, .int .i64 a0_1, .int .i64 (Int.tmod a0_2 1073741824), .int .i64 (Int.tmod a0_3 1073741824), .int .i64 (Go.bits .and .i64 a0_4 1073741823), .int .i64 (Int.tmod a0_5 65536), .int .i64 (Int.tmod a0_6 65536), .int .i64 (Int.tmod a0_7 65536)] (0, 0) _ rfl (by (with_reducible repeat (first | refine blk_drewN ?_ _ | refine blk_drew ?_ | refine blk_alloc ?_ _)); refine blk_put (cs := #[.int .i64 a0_0, .int .i64 a0_1, .int .i64 (Int.tmod a0_2 1073741824), .int .i64 (Int.tmod a0_3 1073741824), .int .i64 (Go.bits .and .i64 a0_4 1073741823), .int .i64 (Int.tmod a0_5 65536), .int .i64 (Int.tmod a0_6 65536), .int .i64 0]) ?_ 7 _ rfl; (with_reducible repeat (first | refine blk_drewN ?_ _ | refine blk_drew ?_ | refine blk_alloc ?_ _)); refine blk_put (cs := #[.int .i64 a0_0, .int .i64 a0_1, .int .i64 (Int.tmod a0_2 1073741824), .int .i64 (Int.tmod a0_3 1073741824), .int .i64 (Go.bits .and .i64 a0_4 1073741823), .int .i64 (Int.tmod a0_5 65536), .int .i64 0, .int .i64 0]) ?_ 6 _ rfl; (with_reducible repeat (first | refine blk_drewN ?_ _ | refine blk_drew ?_ | refine blk_alloc ?_ _)); refine blk_put (cs := #[.int .i64 a0_0, .int .i64 a0_1, .int .i64 (Int.tmod a0_2 1073741824), .int .i64 (Int.tmod a0_3 1073741824), .int .i64 (Go.bits .and .i64 a0_4 1073741823), .int .i64 0, .int .i64 0, .int .i64 0]) ?_ 5 _ rfl; (with_reducible repeat (first | refine blk_drewN ?_ _ | refine blk_drew ?_ | refine blk_alloc ?_ _)); refine blk_put (cs := #[.int .i64 a0_0, .int .i64 a0_1, .int .i64 (Int.tmod a0_2 1073741824), .int .i64 (Int.tmod a0_3 1073741824), .int .i64 0, .int .i64 0, .int .i64 0, .int .i64 0]) ?_ 4 _ rfl; (with_reducible repeat (first | refine blk_drewN ?_ _ | refine blk_drew ?_ | refine blk_alloc ?_ _)); refine blk_put (cs := #[.int .i64 a0_0, .int .i64 a0_1, .int .i64 (Int.tmod a0_2 1073741824), .int .i64 0, .int .i64 0, .int .i64 0, .int .i64 0, .int .i64 0]) ?_ 3 _ rfl; (with_reducible repeat (first | refine blk_drewN ?_ _ | refine blk_drew ?_ | refine blk_alloc ?_ _)); refine blk_put (cs := #[.int .i64 a0_0, .int .i64 a0_1, .int .i64 0, .int .i64 0, .int .i64 0, .int .i64 0, .int .i64 0, .int .i64 0]) ?_ 2 _ rfl; (with_reducible repeat (first | refine blk_drewN ?_ _ | refine blk_drew ?_ | refine blk_alloc ?_ _)); refine blk_put (cs := #[.int .i64 a0_0, .int .i64 0, .int .i64 0, .int .i64 0, .int .i64 0, .int .i64 0, .int .i64 0, .int .i64 0]) ?_ 1 _ rfl; (with_reducible repeat (first | refine blk_drewN ?_ _ | refine blk_drew ?_ | refine blk_alloc ?_ _)); refine blk_put (cs := #[.int .i64 0, .int .i64 0, .int .i64 0, .int .i64 0, .int .i64 0, .int .i64 0, .int .i64 0, .int .i64 0]) ?_ 0 _ rfl; (with_reducible repeat (first | refine blk_drewN ?_ _ | refine blk_drew ?_ | refine blk_alloc ?_ _)); refine blk_far ?_ NB396_395.out _; (with_reducible repeat (first | refine blk_drewN ?_ _ | refine blk_drew ?_ | refine blk_alloc ?_ _)); refine blk_far ?_ NB396_395.out _; (with_reducible repeat (first | refine blk_drewN ?_ _ | refine blk_drew ?_ | refine blk_alloc ?_ _)); refine blk_far ?_ NB396_395.out _; (with_reducible repeat (first | refine blk_drewN ?_ _ | refine blk_drew ?_ | refine blk_alloc ?_ _)); refine blk_far ?_ NB396_395.out _; (with_reducible repeat (first | refine blk_drewN ?_ _ | refine blk_drew ?_ | refine blk_alloc ?_ _)); refine blk_far ?_ NB396_395.out _; (with_reducible repeat (first | refine blk_drewN ?_ _ | refine blk_drew ?_ | refine blk_alloc ?_ _)); refine blk_far ?_ NB396_395.out _; (with_reducible repeat (first | refine blk_drewN ?_ _ | refine blk_drew ?_ | refine blk_alloc ?_ _)); exact BK396.out) Try.underlying37 rfl (by kernel_rfl)) rfl ?_
 exact bF
/-! ### impact_within: function 65 -/
def impact_within.l0 : Nat → Int → List Int → Int → Int → Option (Bool)
 | 0, _, _, _, _ => none
 | k + 1, x0, x7, x8, x9 => if x9 < x8 then (if 0 ≤ x9 then (if x9 < (x7.length : Int) then (if (rd x7 x9) < (wrap64 (-x0)) then (some false) else (if (rd x7 x9) > x0 then (some false) else (impact_within.l0 k x0 x7 x8 (wrap64 (x9 + 1))))) else (none)) else (none)) else (some true)
def impact_within.f (k : Nat) (a0 : Int) (l1 : List Int) : Option (Bool) := impact_within.l0 k a0 l1 (l1.length : Int) 0
theorem impact_within.mono_l : ∀ k, (∀ y0 y1 y2 y3, LeO (impact_within.l0 k y0 y1 y2 y3) (impact_within.l0 (k + 1) y0 y1 y2 y3))
 | 0 => fun _ _ _ _ r h => by simp [impact_within.l0] at h
 | k + 1 => by
  have ih0 := impact_within.mono_l k
  ·intro y0 y1 y2 y3
   unfold impact_within.l0
   repeat' first
   | (with_reducible exact ih0 _ _ _ _)
   | (with_reducible exact LeO.refl _)
   | (with_reducible exact LeO.none _)
   | (with_reducible refine LeO.ite ?_ ?_)
   | (with_reducible refine LeO.bind ?_ (fun _ => ?_))
   | exact ih0 _ _ _ _
   | exact LeO.none _
   | refine LeO.ite ?_ ?_
   | refine LeO.bind ?_ (fun _ => ?_)
theorem impact_within.mono : ∀ a0 a1 k, LeO (impact_within.f k a0 a1) (impact_within.f (k + 1) a0 a1) := by
 intro a0 a1 k
 have ih0 := impact_within.mono_l k
 unfold impact_within.f
 repeat' first
   | (with_reducible exact ih0 _ _ _ _)
   | (with_reducible exact LeO.refl _)
   | (with_reducible exact LeO.none _)
   | (with_reducible refine LeO.ite ?_ ?_)
   | (with_reducible refine LeO.bind ?_ (fun _ => ?_))
   | exact ih0 _ _ _ _
   | exact LeO.none _
   | refine LeO.ite ?_ ?_
   | refine LeO.bind ?_ (fun _ => ?_)
set_option maxHeartbeats 8000000 in
set_option maxRecDepth 100000 in
theorem impact_within.calls (k : Nat) (a0 : Int) (A1 : Option Addr) (c1 : Nat) (l1 : List Int) (r : Bool) (w : World) (hr1 : Kd.C (Kd.int .i64) w A1 l1.length l1) (hc1 : l1.length ≤ c1) (h : impact_within.f k a0 l1 = some r) :
  Calls Try.prog 65 #[.int .i64 a0, .slice A1 l1.length c1] w fun e w' => e = .returned (.bool r) ∧ Drawn0 w w' := by
 have HR1 := bA hr1
 have HC1 := bA hc1
 clear hr1 hc1
 have H : (impact_within.l0 k a0 l1 (l1.length : Int) 0) = some r := h
 clear h
 have H' := bA H
 clear H
 go_enter Try.func65, Try.ntmps65
 go_wp2
 go_loopg [9] k (fun kq v9 w' => ∃ (x9_1 : Int), v9 = .int .i64 x9_1 ∧ Aside0 (impact_within.l0 kq a0 l1 (l1.length : Int) x9_1 = some r) ∧ Aside0 (kq ≤ k) ∧ Drawn0 w w')
 case atStart => exact ⟨(0), (by first | rfl | (simp; done) | (simp [*]; done)), H', ⟨Nat.le_refl _⟩, by repeat (first | exact Drawn0.refl _ | apply Drawn0.step)⟩
 case round =>
  clear H'
  try clear c1
  try clear p2
  obtain ⟨x9_1, rfl, HA, HK1, ⟨m1, rfl⟩⟩ := hrel
  cases gk with
  | zero => exact absurd HA.out (by simp [impact_within.l0])
  | succ k1 =>
   have H := HA.out
   clear HA
   simp only [impact_within.l0] at H
   by_cases c3 : x9_1 < (l1.length : Int)
   rw [if_pos c3] at H
   have c3b0 : decide (x9_1 < (l1.length : Int)) = true := decide_eq_true c3
   clear c3
   by_cases c4 : 0 ≤ x9_1
   rw [if_pos c4] at H
   have c4b0 : decide (0 ≤ x9_1) = true := decide_eq_true c4
   clear c4
   by_cases c5 : x9_1 < (l1.length : Int)
   rw [if_pos c5] at H
   have c5b0 : decide (x9_1 < (l1.length : Int)) = true := decide_eq_true c5
   clear c5
   by_cases c6 : (rd l1 x9_1) < (wrap64 (-a0))
   rw [if_pos c6] at H
   have c6b0 : decide ((rd l1 x9_1) < (wrap64 (-a0))) = true := decide_eq_true c6
   clear c6
   obtain rfl := Option.some.inj H
   have p397 : 0 ≤ (x9_1 : Int) := of_decide_eq_true (by first | (with_reducible assumption) | assumption)
   have q397 : x9_1 < (l1.length : Int) := of_decide_eq_true (by first | (with_reducible assumption) | assumption)
   obtain ⟨ad397, e397, hx397_0⟩ := Kd.at_int HR1.out x9_1 p397 q397
   cases e397
   replace p397 := eq_true p397
   replace q397 := eq_true q397
   rotate_left
   rw [if_neg c6] at H
   have c6b0 : decide ((rd l1 x9_1) < (wrap64 (-a0))) = false := decide_eq_false c6
   clear c6
   by_cases c7 : (rd l1 x9_1) > a0
   rw [if_pos c7] at H
   have c7b0 : decide (a0 < (rd l1 x9_1)) = true := decide_eq_true c7
   clear c7
   obtain rfl := Option.some.inj H
   have p397 : 0 ≤ (x9_1 : Int) := of_decide_eq_true (by first | (with_reducible assumption) | assumption)
   have q397 : x9_1 < (l1.length : Int) := of_decide_eq_true (by first | (with_reducible assumption) | assumption)
   obtain ⟨ad397, e397, hx397_0⟩ := Kd.at_int HR1.out x9_1 p397 q397
   cases e397
   replace p397 := eq_true p397
   replace q397 := eq_true q397
   rotate_left
   rw [if_neg c7] at H
   have c7b0 : decide (a0 < (rd l1 x9_1)) = false := decide_eq_false c7
   clear c7
   have H' := bA H
   clear H
   have p397 : 0 ≤ (x9_1 : Int) := of_decide_eq_true (by first | (with_reducible assumption) | assumption)
   have q397 : x9_1 < (l1.length : Int) := of_decide_eq_true (by first | (with_reducible assumption) | assumption)
   obtain ⟨ad397, e397, hx397_0⟩ := Kd.at_int HR1.out x9_1 p397 q397
   cases e397
   replace p397 := eq_true p397
   replace q397 := eq_true q397
   rotate_left
   rw [if_neg c5] at H
   exact absurd H (by simp)
   rw [if_neg c4] at H
   exact absurd H (by simp)
   rw [if_neg c3] at H
   have c3b0 : decide (x9_1 < (l1.length : Int)) = false := decide_eq_false c3
   clear c3
   obtain rfl := Option.some.inj H
   rotate_left
   all_goals go_wp2
   ·go_ret
    exact bD
   ·go_ret
    exact bD
   ·go_roundg k1
    case measure => have := HK1.out; omega
    case rel => exact ⟨(wrap64 (x9_1 + 1)), (by first | rfl | (simp; done) | (simp [*]; done)), H', ⟨by have := HK1.out; omega⟩, by repeat (first | exact Drawn0.refl _ | apply Drawn0.step)⟩
   ·go_ret
    exact bD
end Go.Proofs.Ytlifeghjcgbfnaa.G
